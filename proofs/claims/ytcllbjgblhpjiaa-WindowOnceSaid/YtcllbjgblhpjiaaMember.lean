/- Which numbers a window holds: plain law. -/
import Derived.Test.YtcllbjgblhpjiaaPlain
namespace Go.Proofs.Ytcllbjgblhpjiaa
/-- the number is in -/
def mem (F : Int) (M : Nat) (x : Int) : Bool := decide (x ≤ F) || (decide (F < x) && M.testBit (x - F - 1).toNat)
theorem mem_strip1 {F : Int} {M : Nat} (ho : M % 2 = 1) (x : Int) : mem (F + 1) (M / 2) x = mem F M x := by
  unfold mem
  rw [Bool.eq_iff_iff]
  simp only [Bool.or_eq_true, Bool.and_eq_true, decide_eq_true_eq]
  rcases Int.lt_trichotomy x (F + 1) with h | h | h
  · constructor <;> intro _ <;> left <;> omega
  · constructor
    · intro _
      right
      refine ⟨by omega, ?_⟩
      have : (x - F - 1).toNat = 0 := by omega
      rw [this, Nat.testBit_zero]; simpa using ho
    · intro _; left; omega
  · have e : (x - F - 1).toNat = (x - (F + 1) - 1).toNat + 1 := by omega
    rw [e, Nat.testBit_succ]
    constructor
    · rintro (h1 | ⟨_, h1⟩)
      · omega
      · exact .inr ⟨by omega, h1⟩
    · rintro (h1 | ⟨_, h1⟩)
      · omega
      · exact .inr ⟨by omega, h1⟩
theorem mem_strip : ∀ (k : Nat) (F : Int) (M : Nat) (x : Int), mem (strip k F M).1 (strip k F M).2 x = mem F M x
  | 0, F, M, x => by unfold strip; rfl
  | k + 1, F, M, x => by
    unfold strip
    split
    · rename_i ho
      rw [mem_strip k, mem_strip1 ho]
    · rfl
theorem strip_even : ∀ (k : Nat) (F : Int) (M : Nat), M < 2 ^ k → (strip k F M).2 % 2 = 0
  | 0, F, M, h => by unfold strip; simp at h; omega
  | k + 1, F, M, h => by
    unfold strip
    split
    · exact strip_even k _ _ (by rw [Nat.pow_succ] at h; omega)
    · omega
theorem mem_put {F : Int} {M : Nat} {n : Int} (h : F < n) (x : Int) : mem (put F M n).1 (put F M n).2 x = (mem F M x || decide (x = n)) := by
  unfold put
  rw [mem_strip]
  unfold mem
  rw [Bool.eq_iff_iff]
  simp only [Nat.testBit_or, Nat.testBit_two_pow, Bool.or_eq_true, Bool.and_eq_true, decide_eq_true_eq]
  constructor
  · rintro (h1 | ⟨h1, h2 | h2⟩)
    · exact .inl (.inl h1)
    · exact .inl (.inr ⟨h1, h2⟩)
    · exact .inr (by omega)
  · rintro ((h1 | ⟨h1, h2⟩) | h1)
    · exact .inl h1
    · exact .inr ⟨h1, .inl h2⟩
    · exact .inr ⟨by omega, .inr (by rw [h1])⟩
/-- a window whose numbers are none above k, with no number just behind its floor -/
structure Low (k : Int) (F : Int) (M : Nat) : Prop where
  inv : WInv F M
  top : ∀ x, mem F M x = true → x ≤ k
  even : M % 2 = 0
theorem Low.none {k : Int} (hk : 0 ≤ k) : Low k 0 0 := ⟨WInv.none, fun x h => by unfold mem at h; simp at h; omega, rfl⟩
theorem Low.floor {k F : Int} {M : Nat} (h : Low k F M) : F ≤ k := h.top F (by unfold mem; simp)
theorem Low.near {k F : Int} {M : Nat} (h : Low k F M) (hk : k ≤ 60) {n : Int} (hn : n ≤ k + 1) : far F n = false := by
  have := h.inv.lo
  unfold far
  rw [Bool.and_eq_false_iff]
  exact .inr (decide_eq_false (by omega))
theorem Low.seen {k F : Int} {M : Nat} (h : Low k F M) (hk : k ≤ 60) {n : Int} (hn : n ≤ k + 1) : seen F M n = mem F M n := by
  unfold Go.Proofs.Ytcllbjgblhpjiaa.seen mem
  rw [h.near hk hn]
  by_cases hF : n ≤ F
  · rw [decide_eq_true hF]; rfl
  · rw [decide_eq_false hF, decide_eq_true (show F < n by omega)]; rfl
theorem Low.addB {k F : Int} {M : Nat} (h : Low k F M) (hk : k ≤ 60) {n : Int} (hn : n ≤ k + 1) : addB F M n = !mem F M n := by
  unfold Go.Proofs.Ytcllbjgblhpjiaa.addB
  rw [h.near hk hn, h.seen hk hn]; rfl
theorem Low.add {k F : Int} {M : Nat} (h : Low k F M) (hk : k ≤ 60) {n : Int} (hn : n ≤ k) : Low k (addS F M n).1 (addS F M n).2 ∧ ∀ x, mem (addS F M n).1 (addS F M n).2 x = (mem F M x || decide (x = n)) := by
  unfold addS
  cases hb : Go.Proofs.Ytcllbjgblhpjiaa.addB F M n with
  | false =>
    rw [if_neg Bool.false_ne_true]
    rw [h.addB hk (by omega)] at hb
    refine ⟨h, fun x => ?_⟩
    by_cases hx : x = n
    · subst hx
      have : mem F M x = true := by simpa using hb
      rw [this]; rfl
    · rw [decide_eq_false hx, Bool.or_false]
  | true =>
    rw [if_pos rfl]
    obtain ⟨h1, h2, _⟩ := addB_range hb
    have hm := mem_put (M := M) h1
    refine ⟨⟨h.inv.put (by omega) h1 h2, fun x hx => ?_, ?_⟩, hm⟩
    · rw [hm, Bool.or_eq_true, decide_eq_true_eq] at hx
      rcases hx with hx | hx
      · exact h.top x hx
      · omega
    · unfold put
      refine strip_even 64 _ _ ?_
      exact Nat.or_lt_two_pow (n := 64) h.inv.mask (Nat.pow_lt_pow_right (by omega) (by omega))
/-- all numbers up to k are in: that is the floor, and the mask is empty -/
theorem Low.full {k F : Int} {M : Nat} (h : Low k F M) (hall : ∀ x, 1 ≤ x → x ≤ k → mem F M x = true) : F = k ∧ M = 0 := by
  have h0 := h.inv.lo
  have hF : F = k := by
    rcases Int.lt_or_eq_of_le h.floor with hlt | he
    · exfalso
      have := hall (F + 1) (by omega) (by omega)
      unfold mem at this
      simp only [Bool.or_eq_true, Bool.and_eq_true, decide_eq_true_eq] at this
      rcases this with h1 | ⟨_, h1⟩
      · omega
      · rw [show (F + 1 - F - 1).toNat = 0 by omega, Nat.testBit_zero] at h1
        have := h.even
        simp at h1; omega
    · exact he
  refine ⟨hF, Nat.eq_of_testBit_eq fun i => ?_⟩
  rw [Nat.zero_testBit]
  cases hi : M.testBit i with
  | false => rfl
  | true =>
    have := h.top (F + 1 + i) (by
      unfold mem
      rw [Bool.or_eq_true, Bool.and_eq_true]
      refine .inr ⟨decide_eq_true (by omega), ?_⟩
      rw [show (F + 1 + (i : Int) - F - 1).toNat = i by omega]; exact hi)
    omega
end Go.Proofs.Ytcllbjgblhpjiaa
