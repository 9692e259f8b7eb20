/- A number brought within bounds. -/
import Derived.Test.YtcllbjgblhpjiaaCopies
namespace Go.Proofs.Ytcllbjgblhpjiaa
open Go.RowKit Go.Hop
theorem within_any (w : World) (n lo hi : Int) (hn : -9223372036854775808 ≤ n ∧ n ≤ 9223372036854775807) (h0 : 0 ≤ lo) (h1 : lo ≤ hi) (h2 : hi ≤ 1000) :
    Calls Try.prog 8 #[.int .i64 n, .int .i64 lo, .int .i64 hi] w fun e w' => ∃ m : Int, lo ≤ m ∧ m ≤ hi ∧ e = .returned (.int .i64 m) ∧ w = w' := by
  by_cases ha : lo ≤ n
  · by_cases hb : n ≤ hi
    · go_enter Try.func8, Try.ntmps8
      go_wp2_with fail
      go_ret
      exact ⟨n, ha, hb, rfl, rfl⟩
    · skip
      have hp := Int.emod_nonneg n (show hi - lo + 1 ≠ 0 by omega)
      have hl := Int.emod_lt_of_pos n (show 0 < hi - lo + 1 by omega)
      have q1 := Int.tmod_lt_of_pos n (show 0 < hi - lo + 1 by omega)
      have q2 := Int.lt_tmod_of_pos n (show 0 < hi - lo + 1 by omega)
      go_enter Try.func8, Try.ntmps8
      go_wp2_with fail
      all_goals
        go_ret
        refine ⟨_, ?_, ?_, rfl, rfl⟩ <;> (try unfold wrap64) <;> omega
  · skip
    have hp := Int.emod_nonneg n (show hi - lo + 1 ≠ 0 by omega)
    have hl := Int.emod_lt_of_pos n (show 0 < hi - lo + 1 by omega)
    have q1 := Int.tmod_lt_of_pos n (show 0 < hi - lo + 1 by omega)
    have q2 := Int.lt_tmod_of_pos n (show 0 < hi - lo + 1 by omega)
    go_enter Try.func8, Try.ntmps8
    go_wp2_with fail
    all_goals
      go_ret
      refine ⟨_, ?_, ?_, rfl, rfl⟩ <;> (try unfold wrap64) <;> omega
end Go.Proofs.Ytcllbjgblhpjiaa
