/- Are labels named as the answer says. -/
import Derived.Test.YthkkfdnechmddaaDoorLreads
namespace Go.Proofs.YthkkfdnechmddaaDoor
open Go.RowKit Go.Hop
set_option maxRecDepth 100000 in
theorem same_any (w : World) (V : Nat → Prop) (A : Option Addr) (n c : Nat) (l : List Lb) (h : In w V 2 A n (lcells l)) (hl : ∀ d ∈ l, d.1.size ≤ maxLen ∧ d.2.size ≤ maxLen) (hn : n ≤ 9223372036854775807) :
    Calls Tryd.prog 8 #[.slice A n c] w fun e w' => e = .returned (.bool true) ∧ Grow w w' := by
  have h1 := fun w1 (hg : Grow w w1) => Text_any w1 V A n c l (h.grow hg) hl hn
  have h2 := fun w1 (hg : Grow w w1) => rText_any w1 V A n c l (h.grow hg) hl hn
  have h3 := fun w1 (hg : Grow w w1) => Right_any w1 V A n c l (h.grow hg) hl hn
  have h4 := fun w1 (hg : Grow w w1) => rRight_any w1 V A n c l (h.grow hg) hl hn
  have h5 := fun w1 => reads_any w1 (textOf l) 3 (Nat.le_trans text_small (by omega)) (by omega)
  clear h hl
  generalize textOf l = s at h1 h2 h5
  generalize rightE l = E at h1 h2 h3 h4
  go_enter Tryd.func8, Tryd.ntmps8
  go_wp2_with fail
  refine (h1 w (Grow.refl _)).mono ?_
  rintro e w1 ⟨rfl, hg1⟩
  go_wp2_with fail
  refine (h2 w1 hg1).mono ?_
  rintro e w2 ⟨rfl, hg⟩
  have hg2 := hg1.trans hg
  clear hg1 hg
  go_wp2_with fail
  refine (h3 w2 hg2).mono ?_
  rintro e w3 ⟨rfl, hg⟩
  have hg3 := hg2.trans hg
  clear hg2 hg
  go_wp2_with fail
  refine (h4 w3 hg3).mono ?_
  rintro e w4 ⟨rfl, hg⟩
  have hg4 := hg3.trans hg
  clear hg3 hg
  go_wp2_with fail
  refine (h5 w4).mono ?_
  rintro e w5 ⟨rfl, hg⟩
  have hg5 := hg4.trans hg
  go_wp2_with fail
  go_ret
  exact ⟨rfl, hg5⟩
end Go.Proofs.YthkkfdnechmddaaDoor
