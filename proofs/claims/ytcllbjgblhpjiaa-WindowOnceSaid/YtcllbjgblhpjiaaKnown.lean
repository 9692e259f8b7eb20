/- The runs that the laws share. -/
import Derived.Test.YtcllbjgblhpjiaaMake
namespace Go.Proofs.Ytcllbjgblhpjiaa
open Go.RowKit Go.Hop
theorem WInv.lt {F : Int} {M : Nat} (h : WInv F M) : -9223372036854775808 ≤ F ∧ F ≤ 9223372036854775807 := ⟨by have := h.lo; omega, h.hi⟩
theorem add_is (w : World) (g : Nat) (F : Int) (M : Nat) (n : Int) (b : Bool) (F' : Int) (M' : Nat) (h : Blk w g 36 #[.int .i64 F, .int .u64 (M : Int)]) (hI : WInv F M) (hn : -9223372036854775808 ≤ n ∧ n ≤ 9223372036854775807) (hb : addB F M n = b) (hs : addS F M n = (F', M')) :
    Calls Try.prog 9 #[.pointer (some ⟨g, 0, none⟩), .int .i64 n] w fun e w' => e = .returned (.bool b) ∧ Blk w' g 36 #[.int .i64 F', .int .u64 (M' : Int)] ∧ Only g w w' ∧ WInv F' M' := by
  have hw := hI.add hn.2
  rw [hs] at hw
  refine (add_any w g F M n h hI hn).mono fun e w' ⟨h1, h2, h3⟩ => ⟨by rw [h1, hb], ?_, h3, hw⟩
  rw [hs] at h2; exact h2
theorem seen_is (w : World) (g : Nat) (F : Int) (M : Nat) (n : Int) (b : Bool) (h : Blk w g 36 #[.int .i64 F, .int .u64 (M : Int)]) (hI : WInv F M) (hn : -9223372036854775808 ≤ n ∧ n ≤ 9223372036854775807) (hb : seen F M n = b) :
    Calls Try.prog 10 #[.pointer (some ⟨g, 0, none⟩), .int .i64 n] w fun e w' => e = .returned (.bool b) ∧ Grow w w' := hb ▸ seen_any w g F M n h hI hn
set_option maxHeartbeats 1000000 in
theorem known_any (w : World) : Calls Try.prog 13 #[] w fun e w' => e = .returned (.bool true) ∧ Grow w w' := by
  go_enter Try.func13, Try.ntmps13
  go_wp2_with (go_at_call 7; refine (new_any _).mono ?_; rintro e w1 ⟨rfl, hB0, hg0⟩)
  have hlt : w.heap.size < w1.heap.size := hB0.lt
  generalize hgg : w.heap.size = g at hB0 hlt
  go_wp2_with fail
  go_at_call 16
  refine (far_is _ g 0 0 65 true hB0 WInv.none.lt (by omega) (by decide)).mono ?_
  rintro e1 w1 ⟨rfl, rfl⟩
  go_wp2_with fail
  go_at_call 9
  refine (add_is _ g 0 0 2 true 0 2 hB0 WInv.none (by omega) (by decide) (by decide)).mono ?_
  rintro e1 w1 ⟨rfl, hB1, hO1, hI1⟩
  go_wp2_with fail
  go_at_call 11
  refine (floor_any _ g 0 2 hB1).mono ?_
  rintro e1 w1 ⟨rfl, rfl⟩
  go_wp2_with fail
  go_at_call 9
  refine (add_is _ g 0 2 1 true 2 0 hB1 hI1 (by omega) (by decide) (by decide)).mono ?_
  rintro e1 w1 ⟨rfl, hB2, hO2, hI2⟩
  go_wp2_with fail
  go_at_call 9
  refine (add_is _ g 2 0 1 false 2 0 hB2 hI2 (by omega) (by decide) (by decide)).mono ?_
  rintro e1 w1 ⟨rfl, hB3, hO3, hI3⟩
  go_wp2_with fail
  go_at_call 16
  refine (far_is _ g 2 0 65 false hB3 hI3.lt (by omega) (by decide)).mono ?_
  rintro e1 w1 ⟨rfl, rfl⟩
  go_wp2_with fail
  go_at_call 11
  refine (floor_any _ g 2 0 hB3).mono ?_
  rintro e1 w1 ⟨rfl, rfl⟩
  go_wp2_with fail
  go_at_call 12
  refine (mask_any _ g 2 0 hB3).mono ?_
  rintro e1 w1 ⟨rfl, rfl⟩
  go_wp2_with fail
  go_at_call 10
  refine (seen_is _ g 2 0 0 true hB3 hI3 (by omega) (by decide)).mono ?_
  rintro e1 w1 ⟨rfl, hg4⟩
  go_wp2_with fail
  go_at_call 10
  refine (seen_is _ g 2 0 3 false (hB3.grow hg4) hI3 (by omega) (by decide)).mono ?_
  rintro e1 w1 ⟨rfl, hg5⟩
  go_wp2_with fail
  go_ret
  refine ⟨rfl, ?_⟩
  have hO : Only g _ _ := ((hO1.trans hO2).trans hO3).trans (Only.of_grow (hg4.trans hg5))
  exact Below.trans hg0 (hO.below (by omega) (by omega))
end Go.Proofs.Ytcllbjgblhpjiaa
