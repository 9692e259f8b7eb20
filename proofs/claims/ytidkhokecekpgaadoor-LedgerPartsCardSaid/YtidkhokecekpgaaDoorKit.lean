/- What every row's proof of this seat wants. -/
import Derived.Test.YtidkhokecekpgaaDoorRowk
import Derived.Test.YtidkhokecekpgaaDoorBulk
import Derived.Test.YtidkhokecekpgaaDoorFlow2
namespace Go.Proofs.YtidkhokecekpgaaDoor
open Go.RowKit Go.Hop Go.ChangeShapes Go.WideShapes Go.ChangeAt
theorem own : ownKnob Tryd.prog.godebug = none := by kernel_rfl
theorem laidOut : laidOutB Tryd.prog = true := by kernel_rfl
theorem bulk_slice {H : Type} {d : DataW H} {k : IntKind} {n cap : Nat} (hc : n ≤ cap) (h : (d = .nil ∧ n = 0) ∨ ∃ zs : List Int, d = .slice (lits k (zs.take n)) (lits k (zs.drop n)) ∧ zs.length = cap) : n ≤ Rows.uptoBulk d := by
  rcases h with ⟨_, rfl⟩ | ⟨zs, rfl, hz⟩
  · omega
  · have := bulks.slice_le (lits (H := H) k (zs.take n)) (lits k (zs.drop n))
    have e : (lits (H := H) k (zs.take n)).length = n := by simp [lits]; omega
    omega
end Go.Proofs.YtidkhokecekpgaaDoor
