/- Numbers as bytes, in plain words. -/
import Derived.Test.YtdpcokekilklfaaOwn
import Derived.Test.YtdpcokekilklfaaKit
namespace Go.Proofs.Ytdpcokekilklfaa
open Go.RowKit Go.Hop
def enc (n : Nat) : List UInt8 := if n < 128 then [UInt8.ofNat n] else UInt8.ofNat (n % 128 + 128) :: enc (n / 128)
termination_by n
decreasing_by omega
def val : List UInt8 → Nat
  | [] => 0
  | c :: l => c.toNat % 128 + 128 * val l
/-- all but the last byte have the highest bit; the last is no nought, but it be the only one -/
def Canon : List UInt8 → Prop
  | [] => False
  | [c] => c.toNat < 128
  | c :: d :: l => 128 ≤ c.toNat ∧ (d :: l) ≠ [0] ∧ Canon (d :: l)
theorem of_nat {n : Nat} (h : n < 256) : (UInt8.ofNat n).toNat = n := by
  rw [UInt8.toNat_ofNat']; omega
theorem enc_small {n : Nat} (h : n < 128) : enc n = [UInt8.ofNat n] := by rw [enc]; rw [if_pos h]
theorem enc_more {n : Nat} (h : 128 ≤ n) : enc n = UInt8.ofNat (n % 128 + 128) :: enc (n / 128) := by rw [enc]; rw [if_neg (by omega)]
theorem enc_ne (n : Nat) : enc n ≠ [] := by
  by_cases h : n < 128
  · rw [enc_small h]; simp
  · rw [enc_more (by omega)]; simp
theorem val_enc (n : Nat) : val (enc n) = n := by
  induction n using Nat.strongRecOn with
  | _ n ih =>
    by_cases h : n < 128
    · rw [enc_small h]
      simp only [val]
      rw [of_nat (by omega)]; omega
    · rw [enc_more (by omega)]
      simp only [val]
      rw [ih (n / 128) (by omega), of_nat (by omega)]; omega
theorem enc_zero {n : Nat} (h : enc n = [0]) : n = 0 := by
  have := val_enc n
  rw [h] at this
  rw [← this]; rfl
theorem enc_canon (n : Nat) : Canon (enc n) := by
  induction n using Nat.strongRecOn with
  | _ n ih =>
    by_cases h : n < 128
    · rw [enc_small h]
      show (UInt8.ofNat n).toNat < 128
      rw [of_nat (by omega)]; exact h
    · rw [enc_more (by omega)]
      have h1 := ih (n / 128) (by omega)
      have h2 : enc (n / 128) ≠ [0] := fun e => by have := enc_zero e; omega
      revert h1 h2
      cases enc (n / 128) with
      | nil => intro h1; exact absurd h1 (by simp [Canon])
      | cons d l =>
        intro h1 h2
        exact ⟨by rw [of_nat (by omega)]; omega, h2, h1⟩
theorem canon_enc : ∀ (p : List UInt8), Canon p → enc (val p) = p
  | [], h => h.elim
  | [c], h => by
    have h : c.toNat < 128 := h
    simp only [val]
    rw [show c.toNat % 128 + 128 * 0 = c.toNat by omega, enc_small h]
    simp
  | c :: d :: l, h => by
    obtain ⟨h1, h2, h3⟩ := h
    have ih := canon_enc (d :: l) h3
    have hc : c.toNat < 256 := c.toNat_lt
    have hv : 1 ≤ val (d :: l) := by
      rcases Nat.eq_zero_or_pos (val (d :: l)) with h0 | h0
      · rw [h0, enc_small (by omega)] at ih
        exact absurd ih.symm h2
      · exact h0
    show enc (c.toNat % 128 + 128 * val (d :: l)) = _
    generalize val (d :: l) = v at ih hv
    rw [enc_more (by omega), show (c.toNat % 128 + 128 * v) / 128 = v by omega, ih]
    congr 1
    rw [show (c.toNat % 128 + 128 * v) % 128 + 128 = c.toNat by omega]
    simp
theorem canon_prefix : ∀ (p q l : List UInt8), Canon p → Canon q → p <+: l → q <+: l → p = q
  | [], _, _, h, _, _, _ => h.elim
  | _, [], _, _, h, _, _ => h.elim
  | c :: p, d :: q, l, hp, hq, h1, h2 => by
    obtain ⟨r, rfl⟩ := h1
    rw [List.cons_append] at h2
    obtain ⟨rfl, h3⟩ := List.cons_prefix_cons.1 h2
    have h1 : p <+: p ++ r := ⟨r, rfl⟩
    cases p with
    | nil =>
      cases q with
      | nil => rfl
      | cons e q => exact absurd hq.1 (by have : d.toNat < 128 := hp; omega)
    | cons e p =>
      cases q with
      | nil => exact absurd hp.1 (by have : d.toNat < 128 := hq; omega)
      | cons f q => rw [canon_prefix (e :: p) (f :: q) (e :: p ++ r) hp.2.2 hq.2.2 h1 h3]
theorem enc_prefix {m n : Nat} {l : List UInt8} (h1 : enc m <+: l) (h2 : enc n <+: l) : m = n := by
  have := canon_prefix _ _ l (enc_canon m) (enc_canon n) h1 h2
  rw [← val_enc m, this, val_enc]
theorem enc_length : ∀ (k n : Nat), n < 128 ^ (k + 1) → (enc n).length ≤ k + 1
  | 0, n, h => by rw [enc_small (by simpa using h)]; simp
  | k + 1, n, h => by
    by_cases hn : n < 128
    · rw [enc_small hn]; simp
    · rw [enc_more (by omega), List.length_cons]
      have := enc_length k (n / 128) (by rw [Nat.pow_succ] at h; omega)
      omega
theorem enc_ten {n : Nat} (h : n < 18446744073709551616) : (enc n).length ≤ 10 := enc_length 9 n (by omega)
theorem enc_pos (n : Nat) : 1 ≤ (enc n).length := by
  rcases Nat.eq_zero_or_pos (enc n).length with h | h
  · exact absurd (List.eq_nil_of_length_eq_zero h) (enc_ne n)
  · exact h
theorem enc_grows : ∀ (m n : Nat), n ≤ m → (enc n).length ≤ (enc m).length := by
  intro m
  induction m using Nat.strongRecOn with
  | _ m ih =>
    intro n h
    by_cases hn : n < 128
    · rw [enc_small hn]; exact enc_pos m
    · rw [enc_more (n := n) (by omega), enc_more (n := m) (by omega), List.length_cons, List.length_cons]
      have := ih (m / 128) (by omega) (n / 128) (by omega)
      omega
theorem enc_canon_drop {n : Nat} {m : Nat} (h : enc m <+: (enc n).dropLast) : False := by
  have h2 : (enc n).dropLast <+: enc n := List.dropLast_prefix _
  have := enc_prefix (h.trans h2) (List.prefix_refl (enc n))
  subst this
  have h3 := h.length_le
  rw [List.length_dropLast] at h3
  have := enc_pos m
  omega
/-- the first i bytes have the highest bit -/
def Hi (l : List UInt8) (i : Nat) : Prop := ∀ (j : Nat) (hj : j < l.length), j < i → 128 ≤ l[j].toNat
theorem canon_hi : ∀ (p l : List UInt8) (i : Nat), Canon p → p <+: l → Hi l i → i < p.length
  | [], _, _, h, _, _ => h.elim
  | [c], l, i, h, ⟨r, hr⟩, hi => by
    rcases Nat.eq_zero_or_pos i with h0 | h0
    · subst h0; simp
    · have := hi 0 (by rw [← hr]; simp) h0
      subst hr
      have hc : c.toNat < 128 := h
      simp at this; omega
  | c :: d :: p, l, i, h, ⟨r, hr⟩, hi => by
    cases i with
    | zero => simp
    | succ i =>
      have := canon_hi (d :: p) (d :: p ++ r) i h.2.2 ⟨r, rfl⟩ (fun j hj hji => by
        have := hi (j + 1) (by rw [← hr]; simpa using hj) (by omega)
        subst hr
        simpa using this)
      simp at this ⊢; omega
theorem canon_end : ∀ (p l : List UInt8) (i : Nat) (hi : i < l.length), Canon p → p <+: l → i < p.length → l[i].toNat < 128 → p.length = i + 1
  | [], _, _, _, h, _, _, _ => h.elim
  | [c], _, i, _, _, _, h, _ => by simp at h; simp; omega
  | c :: d :: p, l, i, hi, h, ⟨r, hr⟩, hip, hl => by
    subst hr
    cases i with
    | zero => have := h.1; simp at hl; omega
    | succ i =>
      have := canon_end (d :: p) (d :: p ++ r) i (by simpa using hi) h.2.2 ⟨r, rfl⟩ (by simpa using hip) (by simpa using hl)
      simp at this ⊢; omega
theorem val_take_succ : ∀ (l : List UInt8) (i : Nat) (hi : i < l.length), val (l.take (i + 1)) = val (l.take i) + (l[i].toNat % 128) * 128 ^ i
  | [], _, h => by simp at h
  | c :: l, 0, _ => by simp [val]
  | c :: l, i + 1, h => by
    have hl : i < l.length := by simpa using h
    have ih := val_take_succ l i hl
    rw [List.take_succ_cons, List.take_succ_cons]
    simp only [val, List.getElem_cons_succ]
    rw [ih, Nat.pow_succ, Nat.mul_add]
    have : 128 * (l[i].toNat % 128 * 128 ^ i) = l[i].toNat % 128 * (128 ^ i * 128) := by rw [Nat.mul_comm, Nat.mul_assoc]
    omega
theorem val_lt : ∀ (l : List UInt8), val l < 128 ^ l.length
  | [] => by simp [val]
  | c :: l => by
    have := val_lt l
    simp only [val, List.length_cons, Nat.pow_succ]
    omega
theorem val_take_lt (l : List UInt8) (i : Nat) : val (l.take i) < 128 ^ i := by
  refine Nat.lt_of_lt_of_le (val_lt _) (Nat.pow_le_pow_right (by omega) ?_)
  rw [List.length_take]; omega
theorem val_part : ∀ (p l : List UInt8) (i : Nat) (hi : i < l.length), p <+: l → i < p.length → (l[i].toNat % 128) * 128 ^ i ≤ val p
  | [], _, _, _, _, h => by simp at h
  | c :: p, l, 0, hi, ⟨r, hr⟩, _ => by subst hr; simp [val]
  | c :: p, l, i + 1, hi, ⟨r, hr⟩, h => by
    subst hr
    have hl : i < (p ++ r).length := by simpa using hi
    have := val_part p (p ++ r) i hl ⟨r, rfl⟩ (by simpa using h)
    simp only [val, List.cons_append, List.getElem_cons_succ, Nat.pow_succ]
    have e : (p ++ r)[i].toNat % 128 * (128 ^ i * 128) = 128 * ((p ++ r)[i].toNat % 128 * 128 ^ i) := by rw [Nat.mul_comm 128, Nat.mul_assoc]
    omega
theorem canon_take : ∀ (l : List UInt8) (i : Nat) (hi : i < l.length), Hi l i → l[i].toNat < 128 → (l[i] ≠ 0 ∨ i = 0) → Canon (l.take (i + 1))
  | [], _, h, _, _, _ => by simp at h
  | c :: l, 0, _, _, h, _ => by simpa [Canon] using h
  | [c], i + 1, h, _, _, _ => by simp at h
  | c :: d :: l, i + 1, hi, hh, h, hz => by
    have ih := canon_take (d :: l) i (by simpa using hi) (fun j hj hji => by have := hh (j + 1) (by simpa using hj) (by omega); simpa using this) (by simpa using h) (by
      rcases hz with hz | hz
      · exact .inl (by simpa using hz)
      · omega)
    have h0 := hh 0 (by simp) (by omega)
    rw [List.take_succ_cons]
    cases ht : (d :: l).take (i + 1) with
    | nil => simp at ht
    | cons e q =>
      rw [ht] at ih
      refine ⟨by simpa using h0, fun he => ?_, ih⟩
      rw [he] at ht
      have hlen := congrArg List.length ht
      rw [List.length_take, List.length_cons, List.length_cons, List.length_nil] at hlen
      rw [List.length_cons, List.length_cons] at hi
      have hi0 : i = 0 := by omega
      subst hi0
      rcases hz with hz | hz
      · apply hz
        simp at ht ⊢
        exact ht
      · omega
/-- what Get is to tell -/
def GetIs (l : List UInt8) (n k : Nat) : Prop := (n < 18446744073709551616 ∧ enc n <+: l ∧ k = (enc n).length) ∨ ((∀ m, m < 18446744073709551616 → ¬ enc m <+: l) ∧ n = 0 ∧ k = 0)
theorem GetIs.one {l : List UInt8} {n k n' k' : Nat} (h : GetIs l n k) (h' : GetIs l n' k') : n = n' ∧ k = k' := by
  rcases h with ⟨h1, h2, h3⟩ | ⟨h1, h2, h3⟩ <;> rcases h' with ⟨g1, g2, g3⟩ | ⟨g1, g2, g3⟩
  · have := enc_prefix h2 g2
    subst this
    exact ⟨rfl, by omega⟩
  · exact absurd h2 (g1 _ h1)
  · exact absurd g2 (h1 _ g1)
  · omega
theorem GetIs.none {l : List UInt8} (h : ∀ m, m < 18446744073709551616 → ¬ enc m <+: l) : GetIs l 0 0 := .inr ⟨h, rfl, rfl⟩
theorem GetIs.lt {l : List UInt8} {n k : Nat} (h : GetIs l n k) : n < 18446744073709551616 ∧ k ≤ 10 ∧ k ≤ l.length := by
  rcases h with ⟨h1, h2, h3⟩ | ⟨h1, h2, h3⟩
  · exact ⟨h1, by have := enc_ten h1; omega, by have := h2.length_le; omega⟩
  · omega
/-- all bytes that may be looked at have the highest bit -/
theorem none_long {l : List UInt8} {i : Nat} (h : Hi l i) (hi : i = l.length ∨ 10 ≤ i) : ∀ m, m < 18446744073709551616 → ¬ enc m <+: l := fun m hm hp => by
  have h1 := canon_hi _ l i (enc_canon m) hp h
  have h2 := hp.length_le
  have h3 := enc_ten hm
  omega
/-- too great -/
theorem none_great {l : List UInt8} {i : Nat} (hi : i < l.length) (h : Hi l i) (hg : 18446744073709551616 ≤ (l[i].toNat % 128) * 128 ^ i) : ∀ m, m < 18446744073709551616 → ¬ enc m <+: l := fun m hm hp => by
  have h1 := canon_hi _ l i (enc_canon m) hp h
  have h2 := val_part _ l i hi hp h1
  rw [val_enc] at h2
  omega
/-- where the number's bytes end -/
theorem enc_at {l : List UInt8} {i m : Nat} (hi : i < l.length) (h : Hi l i) (hl : l[i].toNat < 128) (hp : enc m <+: l) : enc m = l.take (i + 1) := by
  have h1 := canon_hi _ l i (enc_canon m) hp h
  have h2 := canon_end _ l i hi (enc_canon m) hp h1 hl
  obtain ⟨r, rfl⟩ := hp
  rw [← h2, List.take_left']
  rfl
theorem none_nought {l : List UInt8} {i : Nat} (hi : i < l.length) (h : Hi l i) (hz : l[i] = 0) (h0 : 0 < i) : ∀ m, m < 18446744073709551616 → ¬ enc m <+: l := fun m _ hp => by
  have e := enc_at hi h (by rw [hz]; decide) hp
  have hc := enc_canon m
  rw [e] at hc
  have key : ∀ (l : List UInt8) (i : Nat) (hi : i < l.length), l[i] = 0 → 0 < i → ¬ Canon (l.take (i + 1)) := by
    intro l
    induction l with
    | nil => intro i hi; simp at hi
    | cons c l ih =>
      intro i hi hz h0 hc
      cases i with
      | zero => omega
      | succ i =>
        cases l with
        | nil => simp at hi
        | cons d l =>
          rw [List.take_succ_cons, List.take_succ_cons] at hc
          cases i with
          | zero =>
            simp at hz
            subst hz
            exact hc.2.1 (by simp)
          | succ i =>
            refine ih (i + 1) (by simpa using hi) (by simpa using hz) (by omega) ?_
            rw [List.take_succ_cons]
            exact hc.2.2
  exact key l i hi hz h0 hc
theorem some_here {l : List UInt8} {i : Nat} (hi : i < l.length) (h : Hi l i) (hl : l[i].toNat < 128) (hz : l[i] ≠ 0 ∨ i = 0) (hv : val (l.take (i + 1)) < 18446744073709551616) : GetIs l (val (l.take (i + 1))) (i + 1) := by
  have e := canon_enc _ (canon_take l i hi h hl hz)
  refine .inl ⟨hv, by rw [e]; exact List.take_prefix _ _, ?_⟩
  rw [e, List.length_take]; omega
theorem hi_succ {l : List UInt8} {i : Nat} (hi : i < l.length) (h : Hi l i) (hc : 128 ≤ l[i].toNat) : Hi l (i + 1) := fun j hj hji => by
  by_cases he : j = i
  · subst he; exact hc
  · exact h j hj (by omega)
end Go.Proofs.Ytdpcokekilklfaa
