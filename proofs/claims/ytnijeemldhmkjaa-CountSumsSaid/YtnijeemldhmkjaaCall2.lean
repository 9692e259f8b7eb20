/- All, whole. -/
import Derived.Test.YtnijeemldhmkjaaCall
import Derived.Shelf.SlSortCmp.NoneTotal
namespace Go.Proofs.Ytnijeemldhmkjaa
open Go.RowKit Go.Hop
theorem sort_none (w : World) : Calls Try.prog 20 #[.slice none 0 0, .func (.func 21) #[] #[]] w fun e w' => e = .returned (.tuple #[]) ∧ w' = w :=
  Go.Proofs.AnyF.slices_SortFunc_none sortDl none 0 _ w
end Go.Proofs.Ytnijeemldhmkjaa
