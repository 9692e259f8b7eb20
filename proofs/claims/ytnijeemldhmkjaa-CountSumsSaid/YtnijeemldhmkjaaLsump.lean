/- CountSums, in plain words: rows of small numbers, in any order. -/
import Derived.Test.YtnijeemldhmkjaaLnever
namespace Go.Proofs.Ytnijeemldhmkjaa
open Go.RowKit Go.Hop
/-- small numbers of few series -/
structure Low (l : List Dl) : Prop where
  few : l.length ≤ 5
  all : ∀ d ∈ l, d.1 ∈ nameL ∧ d.2 ≤ 65535
theorem Low.ok {l : List Dl} (h : Low l) : ∀ d ∈ l, d.1.size ≤ maxLen ∧ d.2 ≤ M64 := fun d hd => ⟨by have := nameL_small (h.all d hd).1; unfold maxLen; omega, by have := (h.all d hd).2; unfold M64; omega⟩
theorem tot_le {c : Nat} : ∀ (l : List Dl), (∀ d ∈ l, d.2 ≤ c) → ∀ x, tot l x ≤ c * l.length := by
  intro l
  induction l with
  | nil => intro _ x; simp [tot_nil]
  | cons a l ih =>
    intro h x
    rw [tot_cons, List.length_cons, Nat.mul_add, Nat.mul_one]
    have h1 := ih (fun d hd => h d (List.mem_cons_of_mem _ hd)) x
    have h2 := h a List.mem_cons_self
    split <;> omega
theorem tot_append (l m : List Dl) (x : ByteArray) : tot (l ++ m) x = tot l x + tot m x := by
  unfold tot
  rw [List.filter_append, List.map_append, List.sum_append]
theorem nodup_le {α : Type} [DecidableEq α] : ∀ (l m : List α), l.Nodup → (∀ x ∈ l, x ∈ m) → l.length ≤ m.length := by
  intro l
  induction l with
  | nil => intro m _ _; exact Nat.zero_le _
  | cons a l ih =>
    intro m hn hm
    have hn' := List.nodup_cons.1 hn
    have ha := hm a List.mem_cons_self
    have h1 := ih (m.erase a) hn'.2 fun x hx => (List.mem_erase_of_ne (fun e => hn'.1 (by rw [← e]; exact hx))).2 (hm x (List.mem_cons_of_mem _ hx))
    rw [List.length_erase_of_mem ha] at h1
    have : 0 < m.length := List.length_pos_of_mem ha
    rw [List.length_cons]; omega
/-- sums of k such rows -/
structure LowQ (q : Sm) (k : Nat) : Prop where
  srt : Srt q
  all : ∀ d ∈ q, d.1 ∈ nameL
  num : ∀ x, gt q x ≤ 327675 * k
theorem srt_few {q : Sm} (hs : Srt q) (h : ∀ d ∈ q, d.1 ∈ nameL) : q.length ≤ 8 := by
  have h1 := nodup_le (q.map (·.1)) nameL (keys_nodup hs) fun x hx => by
    obtain ⟨d, hd, rfl⟩ := List.mem_map.1 hx
    exact h d hd
  rw [List.length_map] at h1
  exact h1
theorem LowQ.nil : LowQ [] 0 := ⟨List.Pairwise.nil, by simp, fun x => by show 0 ≤ _; omega⟩
theorem LowQ.few {q : Sm} {k : Nat} (h : LowQ q k) : q.length ≤ 8 := srt_few h.srt h.all
theorem LowQ.more {q : Sm} {k : Nat} (h : LowQ q k) {l : List Dl} (hl : Low l) : LowQ (add q l) (k + 1) := by
  refine ⟨add_srt l q h.srt, add_all (P := fun d => d.1 ∈ nameL) (fun x a b hb => hb) l q h.all fun d hd => (hl.all d hd).1, fun x => ?_⟩
  rw [gt_add]
  have h1 := h.num x
  have h2 := tot_le l (fun d hd => (hl.all d hd).2) x
  have h3 := Nat.mul_le_mul_left 65535 hl.few
  omega
theorem LowQ.may {q : Sm} {k : Nat} (h : LowQ q k) (hk : k ≤ 1000) {l : List Dl} (hl : Low l) : mayE q l = 0 := by
  have h4 := h.more hl
  refine (mayE_is h.srt l).2 ⟨fun d hd => ?_, by have := h4.few; omega⟩
  have := h4.num d.1
  rw [gt_add] at this
  unfold M64
  omega
theorem LowQ.addM_ {q : Sm} {k : Nat} (h : LowQ q k) (hk : k ≤ 1000) {l : List Dl} (hl : Low l) : addM q l = add q l := by
  unfold addM
  rw [if_pos (h.may hk hl)]
/-- two that are one, added up from nothing in either order -/
theorem add_swap (a b : List Dl) : add [] (a ++ b) = add [] (b ++ a) := by
  have hs : ∀ l : List Dl, Srt (add [] l) := fun l => add_srt l [] List.Pairwise.nil
  refine srt_ext (hs _) (hs _) fun x => ?_
  have h1 : (lk (add [] (a ++ b)) x).isSome = (lk (add [] (b ++ a)) x).isSome := by
    rw [lk_add, lk_add, List.any_append, List.any_append, Bool.or_comm (a.any _)]
  have h2 : gt (add [] (a ++ b)) x = gt (add [] (b ++ a)) x := by
    rw [gt_add, gt_add, tot_append, tot_append]; omega
  unfold gt at h2
  cases ha : lk (add [] (a ++ b)) x with
  | none =>
    rw [ha] at h1
    cases hb : lk (add [] (b ++ a)) x with
    | none => rfl
    | some v => rw [hb] at h1; cases h1
  | some v =>
    rw [ha] at h1 h2
    cases hb : lk (add [] (b ++ a)) x with
    | none => rw [hb] at h1; cases h1
    | some u => rw [hb] at h2; simp at h2; rw [h2]
/-- what the row that is refused is -/
def badL : List Dl := [({ data := #[107, 61, 118] }, 1), ({ data := #[97, 61, 49] }, 18446744073709551615), ({ data := #[97, 61, 49] }, 1)]
theorem bad_may (q : Sm) : mayE q badL = 25 := by
  unfold mayE
  cases ho : okRun q [] badL with
  | false => rfl
  | true =>
    have := (okRun_is q badL []).1 ho ({ data := #[97, 61, 49] }, 1) (by unfold badL; simp)
    have h2 : tot badL { data := #[97, 61, 49] } = 18446744073709551616 := by kernel_rfl
    dsimp only at this
    rw [h2] at this
    unfold M64 at this
    omega
theorem bad_add (q : Sm) : addM q badL = q := addM_eq (by rw [bad_may]; decide)
theorem bad_ok : ∀ d ∈ badL, d.1.size ≤ maxLen ∧ d.2 ≤ M64 := by
  intro d hd
  unfold badL at hd
  simp only [List.mem_cons, List.not_mem_nil, or_false] at hd
  rcases hd with rfl | rfl | rfl <;> exact small_of (by decide +kernel) (by omega)
/-- l turned by k: the i-th of it -/
theorem turn_at {α : Type} (l : List α) {k i : Nat} (hk : k < l.length) (hi : i < l.length) : (l.drop k ++ l.take k)[i]? = l[(i + k) % l.length]? := by
  by_cases h : i + k < l.length
  · rw [Nat.mod_eq_of_lt h, List.getElem?_append_left (by rw [List.length_drop]; omega), List.getElem?_drop, Nat.add_comm]
  · rw [Nat.mod_eq_sub_mod (by omega), Nat.mod_eq_of_lt (by omega), List.getElem?_append_right (by rw [List.length_drop]; omega), List.length_drop, List.getElem?_take]
    rw [if_pos (by omega)]
    congr 1
    omega
theorem take_flat {α : Type} (l : List (List α)) {i : Nat} {x : List α} (h : l[i]? = some x) : (l.take (i + 1)).flatten = (l.take i).flatten ++ x := by
  rw [List.take_add_one, List.flatten_append, h]
  simp
end Go.Proofs.Ytnijeemldhmkjaa
