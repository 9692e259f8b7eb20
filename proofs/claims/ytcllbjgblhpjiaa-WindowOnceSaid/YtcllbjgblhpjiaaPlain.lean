/- What a window is, in plain numbers. -/
import Derived.Test.YtcllbjgblhpjiaaBase
namespace Go.Proofs.Ytcllbjgblhpjiaa
def far (F n : Int) : Bool := decide (F < n) && decide (64 ≤ n - F - 1)
def seen (F : Int) (M : Nat) (n : Int) : Bool := decide (n ≤ F) || (!far F n && M.testBit (n - F - 1).toNat)
def strip : Nat → Int → Nat → Int × Nat
  | 0, F, M => (F, M)
  | k + 1, F, M => if M % 2 = 1 then strip k (F + 1) (M / 2) else (F, M)
def put (F : Int) (M : Nat) (n : Int) : Int × Nat := strip 64 F (M ||| 2 ^ (n - F - 1).toNat)
/-- what a window may be: no number beyond the greatest -/
structure WInv (F : Int) (M : Nat) : Prop where
  lo : 0 ≤ F
  hi : F ≤ 9223372036854775807
  mask : M < 18446744073709551616
  top : ∀ i, M.testBit i = true → F + 1 + (i : Int) ≤ 9223372036854775807
theorem WInv.none : WInv 0 0 := ⟨by omega, by omega, by omega, fun i h => by simp at h⟩
theorem WInv.step {F : Int} {M : Nat} (h : WInv F M) (ho : M % 2 = 1) : WInv (F + 1) (M / 2) := by
  have h0 := h.top 0 (by rw [Nat.testBit_zero]; simpa using ho)
  have := h.lo; have := h.mask
  refine ⟨by omega, by omega, by omega, fun i hi => ?_⟩
  have := h.top (i + 1) (by rw [Nat.testBit_succ]; exact hi)
  omega
theorem WInv.strip : ∀ (k : Nat) {F : Int} {M : Nat}, WInv F M → WInv (strip k F M).1 (strip k F M).2
  | 0, _, _, h => h
  | k + 1, F, M, h => by
    unfold Go.Proofs.Ytcllbjgblhpjiaa.strip
    split
    · rename_i ho; exact WInv.strip k (h.step ho)
    · exact h
theorem WInv.put {F : Int} {M : Nat} (h : WInv F M) {n : Int} (hn : n ≤ 9223372036854775807) (h1 : F < n) (h2 : n - F - 1 < 64) : WInv (put F M n).1 (put F M n).2 := by
  refine WInv.strip 64 ⟨h.lo, h.hi, ?_, fun i hi => ?_⟩
  · exact Nat.or_lt_two_pow (n := 64) h.mask (Nat.pow_lt_pow_right (by omega) (by omega))
  · rw [Nat.testBit_or, Bool.or_eq_true] at hi
    rcases hi with hi | hi
    · exact h.top i hi
    · rw [Nat.testBit_two_pow] at hi
      have : (n - F - 1).toNat = i := by simpa using hi
      omega
/-- may the number be added -/
def addB (F : Int) (M : Nat) (n : Int) : Bool := !(far F n || seen F M n)
def addS (F : Int) (M : Nat) (n : Int) : Int × Nat := if addB F M n then Go.Proofs.Ytcllbjgblhpjiaa.put F M n else (F, M)
theorem addB_range {F : Int} {M : Nat} {n : Int} (h : addB F M n = true) : F < n ∧ n - F - 1 < 64 ∧ M.testBit (n - F - 1).toNat = false := by
  unfold addB seen far at h
  simp only [Bool.not_eq_true', Bool.or_eq_false_iff, Bool.and_eq_false_iff, decide_eq_false_iff_not, Bool.not_eq_false'] at h
  obtain ⟨h1, h2, h3⟩ := h
  have hlt : F < n := by omega
  refine ⟨hlt, by omega, ?_⟩
  rcases h3 with h3 | h3
  · simp only [Bool.and_eq_true, decide_eq_true_eq] at h3; omega
  · exact h3
theorem WInv.add {F : Int} {M : Nat} (h : WInv F M) {n : Int} (hn : n ≤ 9223372036854775807) : WInv (addS F M n).1 (addS F M n).2 := by
  unfold addS
  split
  · rename_i hb
    obtain ⟨h1, h2, _⟩ := addB_range hb
    exact h.put hn h1 h2
  · exact h
end Go.Proofs.Ytcllbjgblhpjiaa
