/-
  No cell of these rows narrows 'for every input' (looked for: loops, veiled, ifaces, maps, wideKeys, modest, calm, conditions, laid).
  DERIVED. THE GIVEN ROWS OF THIS SEAT. 5 by the template 'for every input the law returns true; each argument reads behind the call as it read before'; 0 by the template 'total and deterministic' (their statements: YtocpepknlnghkaaTotals.lean).
  GIVEN WITH THE SEED: the statements are not yours to turn. If you find one false, say at which input.
  Laid BY PROGRAM, IN A SANDBOX (cutbox-rows.mjs): the forced cells as the released guide's own fill.sh prints them over the translation 8231c7f3ba609f3b… (all of the seat's roots in one cut). By AI agents, Wed Nov 11 2026. No macro, syntax, notation, axiom, sorry.
-/
import Derived.Test.YtocpepknlnghkaaChecked
import GoSem.Claim
import GoSem.ClaimJoined
import GoSem.ClaimMapViews
import Derived.JoinedTies
import Derived.KernelRfl
namespace Go.Proofs.Ytocpepknlnghkaa
/- THE CELL 'sum', in the pinned program and in every row, IS THE sha256 OF THE DUMP (.gsa) THAT YtocpepknlnghkaaProg.lean LOADS. Nothing in Lean hashes anything: it is a label: what it is worth is what the hold of that sum in a sandbox is worth. -/
noncomputable def Try.pinned : Pinned := { name := "ytocpepknlnghkaa", sum := "8231c7f3ba609f3b0ddb6e52f9cb39905d8eec8e5f618d9208ac74c62e210449", checked := Try.checked }
namespace Rows
def none {H : Type} : Left H := { results := [], args := [] }

/-- 'hopperlaw5.FrameNumbers': WHATEVER THE INPUT: true; the input reads as it did. -/
def frameNumbersSpec : ChangeSpec := { name := "frameNumbers", fn := fun _ => fun
  | [] => { results := [.lit (.bool true)], args := [] }
  | _ => none }
def frameNumbersRow : OpenClaim := { program := "ytocpepknlnghkaa", sum := "8231c7f3ba609f3b0ddb6e52f9cb39905d8eec8e5f618d9208ac74c62e210449", func := "hopper/hopperlaw5.FrameNumbers", spec := "frameNumbers", apart := false }
def FrameNumbersSaid : Prop := frameNumbersRow.holds Try.pinned (OpenSpec.ofChange frameNumbersSpec)

/-- ITS FALSE NEIGHBOUR: 'it returns false'. Refute it at one input. -/
def frameNumbersWrong : ChangeSpec := { name := "frameNumbers", fn := fun _ => fun
  | [] => { results := [.lit (.bool false)], args := [] }
  | _ => none }
def FrameNumbersWrongFalsely : Prop := frameNumbersRow.holds Try.pinned (OpenSpec.ofChange frameNumbersWrong)

/-- 'hopperlaw5.FrameTells': WHATEVER THE INPUT: true; the input reads as it did. -/
def frameTellsSpec : ChangeSpec := { name := "frameTells", fn := fun _ => fun
  | [d1, d2, d3, d4] => { results := [.lit (.bool true)], args := [d1, d2, d3, d4] }
  | _ => none }
def frameTellsRow : OpenClaim := { program := "ytocpepknlnghkaa", sum := "8231c7f3ba609f3b0ddb6e52f9cb39905d8eec8e5f618d9208ac74c62e210449", func := "hopper/hopperlaw5.FrameTells", spec := "frameTells", apart := false }
def FrameTellsSaid : Prop := frameTellsRow.holds Try.pinned (OpenSpec.ofChange frameTellsSpec)

/-- ITS FALSE NEIGHBOUR: 'it returns false'. Refute it at one input. -/
def frameTellsWrong : ChangeSpec := { name := "frameTells", fn := fun _ => fun
  | [d1, d2, d3, d4] => { results := [.lit (.bool false)], args := [d1, d2, d3, d4] }
  | _ => none }
def FrameTellsWrongFalsely : Prop := frameTellsRow.holds Try.pinned (OpenSpec.ofChange frameTellsWrong)

/-- 'hopperlaw5.FrameBack': WHATEVER THE INPUT: true; the input reads as it did. -/
def frameBackSpec : ChangeSpec := { name := "frameBack", fn := fun _ => fun
  | [d1, d2, d3, d4] => { results := [.lit (.bool true)], args := [d1, d2, d3, d4] }
  | _ => none }
def frameBackRow : OpenClaim := { program := "ytocpepknlnghkaa", sum := "8231c7f3ba609f3b0ddb6e52f9cb39905d8eec8e5f618d9208ac74c62e210449", func := "hopper/hopperlaw5.FrameBack", spec := "frameBack", apart := false }
def FrameBackSaid : Prop := frameBackRow.holds Try.pinned (OpenSpec.ofChange frameBackSpec)

/-- ITS FALSE NEIGHBOUR: 'it returns false'. Refute it at one input. -/
def frameBackWrong : ChangeSpec := { name := "frameBack", fn := fun _ => fun
  | [d1, d2, d3, d4] => { results := [.lit (.bool false)], args := [d1, d2, d3, d4] }
  | _ => none }
def FrameBackWrongFalsely : Prop := frameBackRow.holds Try.pinned (OpenSpec.ofChange frameBackWrong)

/-- 'hopperlaw5.FrameRows': WHATEVER THE INPUT: true; the input reads as it did. -/
def frameRowsSpec : ChangeSpec := { name := "frameRows", fn := fun _ => fun
  | [d1, d2] => { results := [.lit (.bool true)], args := [d1, d2] }
  | _ => none }
def frameRowsRow : OpenClaim := { program := "ytocpepknlnghkaa", sum := "8231c7f3ba609f3b0ddb6e52f9cb39905d8eec8e5f618d9208ac74c62e210449", func := "hopper/hopperlaw5.FrameRows", spec := "frameRows", apart := false }
def FrameRowsSaid : Prop := frameRowsRow.holds Try.pinned (OpenSpec.ofChange frameRowsSpec)

/-- ITS FALSE NEIGHBOUR: 'it returns false'. Refute it at one input. -/
def frameRowsWrong : ChangeSpec := { name := "frameRows", fn := fun _ => fun
  | [d1, d2] => { results := [.lit (.bool false)], args := [d1, d2] }
  | _ => none }
def FrameRowsWrongFalsely : Prop := frameRowsRow.holds Try.pinned (OpenSpec.ofChange frameRowsWrong)

/-- 'hopperlaw5.FrameLengths': WHATEVER THE INPUT: true; the input reads as it did. -/
def frameLengthsSpec : ChangeSpec := { name := "frameLengths", fn := fun _ => fun
  | [d1, d2] => { results := [.lit (.bool true)], args := [d1, d2] }
  | _ => none }
def frameLengthsRow : OpenClaim := { program := "ytocpepknlnghkaa", sum := "8231c7f3ba609f3b0ddb6e52f9cb39905d8eec8e5f618d9208ac74c62e210449", func := "hopper/hopperlaw5.FrameLengths", spec := "frameLengths", apart := false }
def FrameLengthsSaid : Prop := frameLengthsRow.holds Try.pinned (OpenSpec.ofChange frameLengthsSpec)

/-- ITS FALSE NEIGHBOUR: 'it returns false'. Refute it at one input. -/
def frameLengthsWrong : ChangeSpec := { name := "frameLengths", fn := fun _ => fun
  | [d1, d2] => { results := [.lit (.bool false)], args := [d1, d2] }
  | _ => none }
def FrameLengthsWrongFalsely : Prop := frameLengthsRow.holds Try.pinned (OpenSpec.ofChange frameLengthsWrong)

/- THE SECOND FORM. 'bulk': how many values and letters a reading holds, each counted each time it is reached (what is shared counts as often as it is met; a slice's spare places count too). A statement '..UptoSaid' is the law's where the arguments, and the package variables that the reading takes, are together of bulk at most 1048576: NARROWER than '..Said'. Prove '..Said' where nothing that the law and all that it calls make is longer than what came in: it says more and counts as full. Else prove '..UptoSaid'. A law counts once. -/
mutual
def uptoBulk {H : Type} : DataW H → Nat
  | .lit (.string bytes) => bytes.length + 1
  | .lit _ => 1
  | .nil => 1
  | .ptr d => uptoBulk d + 1
  | .slice elems spare => uptoBulkAll elems + uptoBulkAll spare + 1
  | .agg parts => uptoBulkAll parts + 1
  | .iface _ d => uptoBulk d + 1
  | .map entries => uptoBulkEntries entries + 1
  | .held _ => 1
def uptoBulkAll {H : Type} : List (DataW H) → Nat
  | [] => 0
  | d :: r => uptoBulk d + uptoBulkAll r
def uptoBulkEntries {H : Type} : List (Lit × DataW H) → Nat
  | [] => 0
  | x :: r => uptoBulkEntry x + uptoBulkEntries r
def uptoBulkEntry {H : Type} : Lit × DataW H → Nat
  | (.string bytes, d) => bytes.length + uptoBulk d + 1
  | (_, d) => uptoBulk d + 1
 end
def uptoSmall : (H : Type) → List (DataW H) → Bool := fun _ ds => decide (uptoBulkAll ds ≤ 1048576)
def OpenSpec.upto (s : _root_.Go.ChangeSpec) : _root_.Go.OpenSpec := { _root_.Go.OpenSpec.ofChange s with cond := some uptoSmall }

/-- 'hopperlaw5.FrameNumbers', WHERE WHAT IT READS IS OF BULK AT MOST 1048576: true; the input reads as it did. -/
def frameNumbersUptoRow : OpenClaim := { program := "ytocpepknlnghkaa", sum := "8231c7f3ba609f3b0ddb6e52f9cb39905d8eec8e5f618d9208ac74c62e210449", func := "hopper/hopperlaw5.FrameNumbers", spec := "frameNumbers", apart := false, narrowed := true }
def FrameNumbersUptoSaid : Prop := frameNumbersUptoRow.holds Try.pinned (OpenSpec.upto frameNumbersSpec)

/-- 'hopperlaw5.FrameTells', WHERE WHAT IT READS IS OF BULK AT MOST 1048576: true; the input reads as it did. -/
def frameTellsUptoRow : OpenClaim := { program := "ytocpepknlnghkaa", sum := "8231c7f3ba609f3b0ddb6e52f9cb39905d8eec8e5f618d9208ac74c62e210449", func := "hopper/hopperlaw5.FrameTells", spec := "frameTells", apart := false, narrowed := true }
def FrameTellsUptoSaid : Prop := frameTellsUptoRow.holds Try.pinned (OpenSpec.upto frameTellsSpec)

/-- 'hopperlaw5.FrameBack', WHERE WHAT IT READS IS OF BULK AT MOST 1048576: true; the input reads as it did. -/
def frameBackUptoRow : OpenClaim := { program := "ytocpepknlnghkaa", sum := "8231c7f3ba609f3b0ddb6e52f9cb39905d8eec8e5f618d9208ac74c62e210449", func := "hopper/hopperlaw5.FrameBack", spec := "frameBack", apart := false, narrowed := true }
def FrameBackUptoSaid : Prop := frameBackUptoRow.holds Try.pinned (OpenSpec.upto frameBackSpec)

/-- 'hopperlaw5.FrameRows', WHERE WHAT IT READS IS OF BULK AT MOST 1048576: true; the input reads as it did. -/
def frameRowsUptoRow : OpenClaim := { program := "ytocpepknlnghkaa", sum := "8231c7f3ba609f3b0ddb6e52f9cb39905d8eec8e5f618d9208ac74c62e210449", func := "hopper/hopperlaw5.FrameRows", spec := "frameRows", apart := false, narrowed := true }
def FrameRowsUptoSaid : Prop := frameRowsUptoRow.holds Try.pinned (OpenSpec.upto frameRowsSpec)

/-- 'hopperlaw5.FrameLengths', WHERE WHAT IT READS IS OF BULK AT MOST 1048576: true; the input reads as it did. -/
def frameLengthsUptoRow : OpenClaim := { program := "ytocpepknlnghkaa", sum := "8231c7f3ba609f3b0ddb6e52f9cb39905d8eec8e5f618d9208ac74c62e210449", func := "hopper/hopperlaw5.FrameLengths", spec := "frameLengths", apart := false, narrowed := true }
def FrameLengthsUptoSaid : Prop := frameLengthsUptoRow.holds Try.pinned (OpenSpec.upto frameLengthsSpec)

end Rows
end Go.Proofs.Ytocpepknlnghkaa
