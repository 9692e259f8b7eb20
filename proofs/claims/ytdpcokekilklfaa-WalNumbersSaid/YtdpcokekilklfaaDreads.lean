/- What is read of a disk, as strings. -/
import Derived.Test.YtdpcokekilklfaaDisk2
namespace Go.Proofs.Ytdpcokekilklfaa
open Go.RowKit Go.Hop
theorem All_is (w : World) (d : Nat) (l : List UInt8) (k : Nat) (V : Nat → Prop) (hD : DiskAt 44 d l k w V) :
    Calls Try.prog 21 #[.pointer (some ⟨d, 0, none⟩)] w fun e w' => ∃ v, e = .returned v ∧ Grow w w' ∧ IsBytes l v w' :=
  (All_any w d l k V hD).mono fun _ _ ⟨v, he, hO, hg⟩ => ⟨v, he, hg, hO.isBytes⟩
end Go.Proofs.Ytdpcokekilklfaa
