/- What is read of a disk, as strings. -/
import Derived.Test.YtedpcdliadfhgaaDisk2
namespace Go.Proofs.Ytedpcdliadfhgaa
open Go.RowKit Go.Hop
theorem conv_is (w : World) {u : Value} {l : List UInt8} (h : IsBytes l u w) : (convert 23 9 u).run Try.prog w = .ok (.string ⟨l.toArray⟩) w := run_conv_is 23 9 5 Try.underlying23 Try.underlying5 Try.underlying9 w h
theorem conv_bytes (w : World) {B : Nat} {A : Option Addr} {n c : Nat} {l : List UInt8} (h : Bytes w B A n l) : (convert 23 9 (.slice A n c)).run Try.prog w = .ok (.string ⟨l.toArray⟩) w := run_conv_bytes 23 9 5 Try.underlying23 Try.underlying5 Try.underlying9 w h
theorem All_is (w : World) (d : Nat) (l : List UInt8) (k : Nat) (V : Nat → Prop) (hD : DiskAt 45 d l k w V) :
    Calls Try.prog 14 #[.pointer (some ⟨d, 0, none⟩)] w fun e w' => ∃ v, e = .returned v ∧ Grow w w' ∧ IsBytes l v w' :=
  (All_any w d l k V hD).mono fun _ _ ⟨v, he, hO, hg⟩ => ⟨v, he, hg, hO.isBytes⟩
theorem Lasts_is (w : World) (d : Nat) (l : List UInt8) (k : Nat) (V : Nat → Prop) (hD : DiskAt 45 d l k w V) :
    Calls Try.prog 17 #[.pointer (some ⟨d, 0, none⟩)] w fun e w' => ∃ v, e = .returned v ∧ Grow w w' ∧ IsBytes (l.take k) v w' :=
  (Lasts_any w d l k V hD).mono fun _ _ ⟨v, he, hO, hg⟩ => ⟨v, he, hg, hO.isBytes⟩
end Go.Proofs.Ytedpcdliadfhgaa
