/- A number brought within bounds. -/
import Derived.Test.YtidkhokecekpgaaDoorKit
namespace Go.Proofs.YtidkhokecekpgaaDoor
open Go.RowKit Go.Hop
theorem within_any (w : World) (n lo hi : Int) (hn : -9223372036854775808 ≤ n ∧ n ≤ 9223372036854775807) (h0 : -4000000000 ≤ lo) (h1 : lo ≤ hi) (h2 : hi ≤ 4000000000) :
    Calls Tryd.prog 9 #[.int .i64 n, .int .i64 lo, .int .i64 hi] w fun e w' => ∃ m : Int, lo ≤ m ∧ m ≤ hi ∧ e = .returned (.int .i64 m) ∧ w = w' := by
  by_cases ha : lo ≤ n
  · by_cases hb : n ≤ hi
    · go_enter Tryd.func9, Tryd.ntmps9
      go_wp2_with fail
      go_ret
      exact ⟨n, ha, hb, rfl, rfl⟩
    · skip
      have hp := Int.emod_nonneg n (show hi - lo + 1 ≠ 0 by omega)
      have hl := Int.emod_lt_of_pos n (show 0 < hi - lo + 1 by omega)
      have q1 := Int.tmod_lt_of_pos n (show 0 < hi - lo + 1 by omega)
      have q2 := Int.lt_tmod_of_pos n (show 0 < hi - lo + 1 by omega)
      go_enter Tryd.func9, Tryd.ntmps9
      go_wp2_with fail
      all_goals
        go_ret
        refine ⟨_, ?_, ?_, rfl, rfl⟩ <;> (try unfold wrap64) <;> omega
  · skip
    have hp := Int.emod_nonneg n (show hi - lo + 1 ≠ 0 by omega)
    have hl := Int.emod_lt_of_pos n (show 0 < hi - lo + 1 by omega)
    have q1 := Int.tmod_lt_of_pos n (show 0 < hi - lo + 1 by omega)
    have q2 := Int.lt_tmod_of_pos n (show 0 < hi - lo + 1 by omega)
    go_enter Tryd.func9, Tryd.ntmps9
    go_wp2_with fail
    all_goals
      go_ret
      refine ⟨_, ?_, ?_, rfl, rfl⟩ <;> (try unfold wrap64) <;> omega
/-- what it is brought to -/
def withinF (n lo hi : Int) : Int := if lo ≤ n ∧ n ≤ hi then n else lo + n % (hi - lo + 1)
theorem withinF_in {n lo hi : Int} (h1 : lo ≤ hi) : lo ≤ withinF n lo hi ∧ withinF n lo hi ≤ hi := by
  unfold withinF
  have hp := Int.emod_nonneg n (show hi - lo + 1 ≠ 0 by omega)
  have hl := Int.emod_lt_of_pos n (show 0 < hi - lo + 1 by omega)
  split <;> omega
theorem within_is (w : World) (n lo hi : Int) (hn : -9223372036854775808 ≤ n ∧ n ≤ 9223372036854775807) (h0 : -4000000000 ≤ lo) (h1 : lo ≤ hi) (h2 : hi ≤ 4000000000) :
    Calls Tryd.prog 9 #[.int .i64 n, .int .i64 lo, .int .i64 hi] w fun e w' => e = .returned (.int .i64 (withinF n lo hi)) ∧ w = w' := by
  unfold withinF
  by_cases hi' : lo ≤ n ∧ n ≤ hi
  · rw [if_pos hi']
    obtain ⟨ha, hb⟩ := hi'
    go_enter Tryd.func9, Tryd.ntmps9
    go_wp2_with fail
    go_ret
    exact ⟨rfl, rfl⟩
  · rw [if_neg hi']
    have hp := Int.emod_nonneg n (show hi - lo + 1 ≠ 0 by omega)
    have hl := Int.emod_lt_of_pos n (show 0 < hi - lo + 1 by omega)
    have q1 := Int.tmod_lt_of_pos n (show 0 < hi - lo + 1 by omega)
    have q2 := Int.lt_tmod_of_pos n (show 0 < hi - lo + 1 by omega)
    have hr : n.tmod (hi - lo + 1) = n % (hi - lo + 1) ∨ n.tmod (hi - lo + 1) = n % (hi - lo + 1) - (hi - lo + 1) := by
      rw [Int.tmod_eq_emod]
      split <;> omega
    have HR := Lib.hid hr
    have HP := Lib.hid hp
    have HL := Lib.hid hl
    clear hr hp hl
    by_cases ha : lo ≤ n
    · have hb : hi < n := by omega
      clear hi'
      go_enter Tryd.func9, Tryd.ntmps9
      go_wp2_with fail
      all_goals
        go_ret
        refine ⟨ret_int ?_, rfl⟩
        have := HR.out
        have := HP.out
        have := HL.out
        (try unfold wrap64)
        omega
    · clear hi'
      go_enter Tryd.func9, Tryd.ntmps9
      go_wp2_with fail
      all_goals
        go_ret
        refine ⟨ret_int ?_, rfl⟩
        have := HR.out
        have := HP.out
        have := HL.out
        (try unfold wrap64)
        omega
theorem within_nat (w : World) (n lo hi : Int) (hn : -9223372036854775808 ≤ n ∧ n ≤ 9223372036854775807) (h0 : 0 ≤ lo) (h1 : lo ≤ hi) (h2 : hi ≤ 4000000000) :
    Calls Tryd.prog 9 #[.int .i64 n, .int .i64 lo, .int .i64 hi] w fun e w' => ∃ m : Nat, lo ≤ (m : Int) ∧ (m : Int) ≤ hi ∧ e = .returned (.int .i64 (m : Int)) ∧ w = w' :=
  (within_any w n lo hi hn (by omega) h1 h2).mono fun _ _ ⟨m, a, b, he, hw⟩ => ⟨m.toNat, by omega, by omega, by rw [he, show ((m.toNat : Nat) : Int) = m by omega], hw⟩
end Go.Proofs.YtidkhokecekpgaaDoor
