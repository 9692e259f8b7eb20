/- Frames, in plain words. -/
import Derived.Test.YtdpcokekilklfaaVplain
import Derived.Test.YtdpcokekilklfaaCrclaw
namespace Go.Proofs.Ytdpcokekilklfaa
open Go.RowKit Go.Hop
def tb (t : BitVec 32) (i : Nat) : UInt8 := ⟨(t >>> (8 * i)).setWidth 8⟩
theorem tb_nat (c : BitVec 32) (i : Nat) : (tb c i).toNat = c.toNat / 2 ^ (8 * i) % 256 := by
  show ((c >>> (8 * i)).setWidth 8).toNat = _
  rw [BitVec.toNat_setWidth, BitVec.toNat_ushiftRight, Nat.shiftRight_eq_div_pow]
/-- the four bytes of a sum -/
def sum4 (c : BitVec 32) : List UInt8 := [tb c 0, tb c 1, tb c 2, tb c 3]
theorem sum4_len (c : BitVec 32) : (sum4 c).length = 4 := rfl
/-- a frame -/
def frame (l : List UInt8) : List UInt8 := enc l.length ++ (sum4 (crc l) ++ l)
theorem frame_len (l : List UInt8) : (frame l).length = (enc l.length).length + 4 + l.length := by
  unfold frame; rw [List.length_append, List.length_append, sum4_len]; omega
theorem frame_enc {l r : List UInt8} (h : frame l <+: r) : enc l.length <+: r := (List.prefix_append _ _).trans h
theorem frame_one {l l' r : List UInt8} (h : frame l <+: r) (h' : frame l' <+: r) : l = l' := by
  have he := enc_prefix (frame_enc h) (frame_enc h')
  obtain ⟨s, rfl⟩ := h
  unfold frame at h'
  rw [← he] at h'
  rw [List.append_assoc] at h'
  have h2 := (List.prefix_append_right_inj _).1 h'
  obtain ⟨t, ht⟩ := h2
  rw [List.append_assoc, List.append_assoc] at ht
  have h3 : sum4 (crc l') = sum4 (crc l) := (List.append_inj ht rfl).1
  have h4 : l' ++ t = l ++ s := (List.append_inj ht rfl).2
  exact ((List.append_inj h4 he.symm).1).symm
/-- what Read is to tell -/
def ReadIs (l x : List UInt8) (k : Nat) (ok : Bool) : Prop :=
  (ok = true ∧ x.length ≤ 65536 ∧ frame x <+: l ∧ k = (frame x).length) ∨ (ok = false ∧ (∀ y : List UInt8, y.length ≤ 65536 → ¬ frame y <+: l) ∧ x = [] ∧ k = 0)
theorem ReadIs.none {l : List UInt8} (h : ∀ y : List UInt8, y.length ≤ 65536 → ¬ frame y <+: l) : ReadIs l [] 0 false := .inr ⟨rfl, h, rfl, rfl⟩
theorem ReadIs.one {l x x' : List UInt8} {k k' : Nat} {ok ok' : Bool} (h : ReadIs l x k ok) (h' : ReadIs l x' k' ok') : x = x' ∧ k = k' ∧ ok = ok' := by
  rcases h with ⟨a1, a2, a3, a4⟩ | ⟨a1, a2, a3, a4⟩ <;> rcases h' with ⟨b1, b2, b3, b4⟩ | ⟨b1, b2, b3, b4⟩
  · have := frame_one a3 b3
    subst this
    exact ⟨rfl, by omega, by rw [a1, b1]⟩
  · exact absurd a3 (b2 _ a2)
  · exact absurd b3 (a2 _ b2)
  · exact ⟨by rw [a3, b3], by omega, by rw [a1, b1]⟩
/-- nothing was read as a number: there is no frame -/
theorem none_get {l : List UInt8} (h : ∀ m, m < 18446744073709551616 → ¬ enc m <+: l) : ∀ y : List UInt8, y.length ≤ 65536 → ¬ frame y <+: l :=
  fun y hy hp => h y.length (by omega) (frame_enc hp)
theorem none_long' {l : List UInt8} {n : Nat} (h : enc n <+: l) (hn : 65536 < n) : ∀ y : List UInt8, y.length ≤ 65536 → ¬ frame y <+: l := fun y hy hp => by
  have := enc_prefix h (frame_enc hp); omega
theorem none_short {l : List UInt8} {n : Nat} (h : enc n <+: l) (hn : l.length < (enc n).length + 4 + n) : ∀ y : List UInt8, y.length ≤ 65536 → ¬ frame y <+: l := fun y hy hp => by
  have he := enc_prefix h (frame_enc hp)
  have h1 := hp.length_le
  rw [frame_len, ← he] at h1
  omega
/-- what stands behind a number, and a sum -/
theorem body_at {l : List UInt8} {n k : Nat} (h : enc n <+: l) (hk : k = (enc n).length) (hn : k + 4 + n ≤ l.length) :
    ∃ s x r : List UInt8, l = enc n ++ (s ++ (x ++ r)) ∧ s = (l.drop k).take 4 ∧ x = (l.drop (k + 4)).take n ∧ s.length = 4 ∧ x.length = n := by
  obtain ⟨t, rfl⟩ := h
  subst hk
  rw [List.length_append] at hn
  refine ⟨t.take 4, (t.drop 4).take n, (t.drop 4).drop n, ?_, ?_, ?_, by rw [List.length_take]; omega, by rw [List.length_take, List.length_drop]; omega⟩
  · rw [List.take_append_drop, List.take_append_drop]
  · rw [List.drop_left']; rfl
  · rw [← List.drop_drop, List.drop_left']; rfl
theorem read_yes {l : List UInt8} {n k : Nat} (h : enc n <+: l) (hk : k = (enc n).length) (hn : k + 4 + n ≤ l.length) (h6 : n ≤ 65536) (hs : (l.drop k).take 4 = sum4 (crc ((l.drop (k + 4)).take n))) :
    ReadIs l ((l.drop (k + 4)).take n) (k + 4 + n) true := by
  obtain ⟨s, x, r, hl, h1, h2, h3, h4⟩ := body_at h hk hn
  rw [← h2]
  rw [← h1, ← h2] at hs
  refine .inl ⟨rfl, by omega, ⟨r, ?_⟩, by rw [frame_len, h4, ← hk]⟩
  unfold frame
  rw [hl, h4, hs, List.append_assoc, List.append_assoc]
theorem read_no {l : List UInt8} {n k : Nat} (h : enc n <+: l) (hk : k = (enc n).length) (hn : k + 4 + n ≤ l.length) (hs : (l.drop k).take 4 ≠ sum4 (crc ((l.drop (k + 4)).take n))) :
    ∀ y : List UInt8, y.length ≤ 65536 → ¬ frame y <+: l := fun y hy hp => by
  have he := enc_prefix h (frame_enc hp)
  obtain ⟨s, x, r, hl, h1, h2, h3, h4⟩ := body_at h hk hn
  rw [← h1, ← h2] at hs
  obtain ⟨t, ht⟩ := hp
  unfold frame at ht
  rw [← he, hl, List.append_assoc, List.append_assoc] at ht
  have h5 := (List.append_inj ht rfl).2
  have h6 := List.append_inj h5 (by rw [sum4_len, h3])
  have h7 := (List.append_inj h6.2 (by rw [h4, he])).1
  exact hs (by rw [← h6.1, h7])
/-- ref's way to say it -/
theorem frame_take {l : List UInt8} {n k : Nat} (h : enc n <+: l) (hk : k = (enc n).length) (hn : k + 4 + n ≤ l.length) :
    frame ((l.drop (k + 4)).take n) = l.take (k + 4 + n) ↔ (l.drop k).take 4 = sum4 (crc ((l.drop (k + 4)).take n)) := by
  obtain ⟨s, x, r, hl, h1, h2, h3, h4⟩ := body_at h hk hn
  rw [← h1, ← h2]
  have ht : l.take (k + 4 + n) = enc n ++ (s ++ x) := by
    rw [hl, show enc n ++ (s ++ (x ++ r)) = (enc n ++ (s ++ x)) ++ r by simp only [List.append_assoc], List.take_left']
    simp only [List.length_append]; omega
  rw [ht]
  unfold frame
  rw [h4]
  constructor
  · intro he
    exact ((List.append_inj (List.append_cancel_left he) (by rw [sum4_len, h3])).1).symm
  · intro he
    rw [he]
/-- a number from its bytes, the lowest first -/
def leN : List UInt8 → Nat
  | [] => 0
  | b :: r => b.toNat + 256 * leN r
theorem leN_lt : ∀ l : List UInt8, leN l < 256 ^ l.length
  | [] => by decide
  | b :: r => by
    have := leN_lt r
    have hb := b.toNat_lt
    show b.toNat + 256 * leN r < 256 ^ (r.length + 1)
    rw [Nat.pow_succ]; omega
theorem leN_snoc : ∀ (l : List UInt8) (b : UInt8), leN (l ++ [b]) = leN l + b.toNat * 256 ^ l.length
  | [], b => by simp [leN]
  | a :: r, b => by
    show a.toNat + 256 * leN (r ++ [b]) = a.toNat + 256 * leN r + b.toNat * 256 ^ (r.length + 1)
    rw [leN_snoc r b, Nat.pow_succ, Nat.mul_add, ← Nat.mul_assoc 256, Nat.mul_comm 256 b.toNat, Nat.mul_assoc b.toNat, Nat.mul_comm 256 (256 ^ r.length)]; omega
theorem leN_sum (s : List UInt8) (c : BitVec 32) (h : s.length = 4) : leN s = c.toNat ↔ s = sum4 c := by
  match s, h with
  | [b0, b1, b2, b3], _ =>
    have h0 := tb_nat c 0
    have h1 := tb_nat c 1
    have h2 := tb_nat c 2
    have h3 := tb_nat c 3
    have hc := c.isLt
    have g0 := b0.toNat_lt
    have g1 := b1.toNat_lt
    have g2 := b2.toNat_lt
    have g3 := b3.toNat_lt
    simp only [leN, Nat.mul_zero, Nat.add_zero, Nat.pow_zero, Nat.div_one, Nat.reduceMul, Nat.reducePow] at h0 h1 h2 h3 hc ⊢
    unfold sum4
    constructor
    · intro he
      rw [show b0 = tb c 0 from UInt8.toNat_inj.1 (by omega), show b1 = tb c 1 from UInt8.toNat_inj.1 (by omega), show b2 = tb c 2 from UInt8.toNat_inj.1 (by omega), show b3 = tb c 3 from UInt8.toNat_inj.1 (by omega)]
    · intro he
      injection he with e0 he
      injection he with e1 he
      injection he with e2 he
      injection he with e3 _
      rw [e0, e1, e2, e3]
      omega
end Go.Proofs.Ytdpcokekilklfaa
