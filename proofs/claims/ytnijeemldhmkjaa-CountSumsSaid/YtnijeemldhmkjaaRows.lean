/-
  No cell of these rows narrows 'for every input' (looked for: loops, veiled, ifaces, maps, wideKeys, modest, calm, conditions, laid).
  DERIVED. THE GIVEN ROWS OF THIS SEAT. 5 by the template 'for every input the law returns true; each argument reads behind the call as it read before'; 0 by the template 'total and deterministic' (their statements: YtnijeemldhmkjaaTotals.lean).
  GIVEN WITH THE SEED: the statements are not yours to turn. If you find one false, say at which input.
  Laid BY PROGRAM, IN A SANDBOX (cutbox-rows.mjs): the forced cells as the released guide's own fill.sh prints them over the translation 064c95fe803149d2… (all of the seat's roots in one cut). By AI agents, Wed Nov 11 2026. No macro, syntax, notation, axiom, sorry.
-/
import Derived.Test.YtnijeemldhmkjaaChecked
import GoSem.Claim
import GoSem.ClaimJoined
import GoSem.ClaimMapViews
import Derived.JoinedTies
import Derived.KernelRfl
namespace Go.Proofs.Ytnijeemldhmkjaa
/- THE CELL 'sum', in the pinned program and in every row, IS THE sha256 OF THE DUMP (.gsa) THAT YtnijeemldhmkjaaProg.lean LOADS. Nothing in Lean hashes anything: it is a label: what it is worth is what the hold of that sum in a sandbox is worth. -/
noncomputable def Try.pinned : Pinned := { name := "ytnijeemldhmkjaa", sum := "064c95fe803149d22163c3c72b8db37f4d047627e97c5a91b96ec5fea8c7e591", checked := Try.checked }
namespace Rows
def none {H : Type} : Left H := { results := [], args := [] }

/-- 'hopperlaw12.CountNever': WHATEVER THE INPUT: true; the input reads as it did. -/
def countNeverSpec : ChangeSpec := { name := "countNever", fn := fun _ => fun
  | [d1, d2] => { results := [.lit (.bool true)], args := [d1, d2] }
  | _ => none }
def countNeverRow : OpenClaim := { program := "ytnijeemldhmkjaa", sum := "064c95fe803149d22163c3c72b8db37f4d047627e97c5a91b96ec5fea8c7e591", func := "hopper/hopperlaw12.CountNever", spec := "countNever", unfollowed := true, recurses := true, apart := false }
def CountNeverSaid : Prop := countNeverRow.holds Try.pinned (OpenSpec.ofChange countNeverSpec)

/-- ITS FALSE NEIGHBOUR: 'it returns false'. Refute it at one input. -/
def countNeverWrong : ChangeSpec := { name := "countNever", fn := fun _ => fun
  | [d1, d2] => { results := [.lit (.bool false)], args := [d1, d2] }
  | _ => none }
def CountNeverWrongFalsely : Prop := countNeverRow.holds Try.pinned (OpenSpec.ofChange countNeverWrong)

/-- 'hopperlaw12.CountSums': WHATEVER THE INPUT: true; the input reads as it did. -/
def countSumsSpec : ChangeSpec := { name := "countSums", fn := fun _ => fun
  | [d1, d2] => { results := [.lit (.bool true)], args := [d1, d2] }
  | _ => none }
def countSumsRow : OpenClaim := { program := "ytnijeemldhmkjaa", sum := "064c95fe803149d22163c3c72b8db37f4d047627e97c5a91b96ec5fea8c7e591", func := "hopper/hopperlaw12.CountSums", spec := "countSums", unfollowed := true, recurses := true, apart := false }
def CountSumsSaid : Prop := countSumsRow.holds Try.pinned (OpenSpec.ofChange countSumsSpec)

/-- ITS FALSE NEIGHBOUR: 'it returns false'. Refute it at one input. -/
def countSumsWrong : ChangeSpec := { name := "countSums", fn := fun _ => fun
  | [d1, d2] => { results := [.lit (.bool false)], args := [d1, d2] }
  | _ => none }
def CountSumsWrongFalsely : Prop := countSumsRow.holds Try.pinned (OpenSpec.ofChange countSumsWrong)

/-- 'hopperlaw12.CountAll': WHATEVER THE INPUT: true; the input reads as it did. -/
def countAllSpec : ChangeSpec := { name := "countAll", fn := fun _ => fun
  | [d] => { results := [.lit (.bool true)], args := [d] }
  | _ => none }
def countAllRow : OpenClaim := { program := "ytnijeemldhmkjaa", sum := "064c95fe803149d22163c3c72b8db37f4d047627e97c5a91b96ec5fea8c7e591", func := "hopper/hopperlaw12.CountAll", spec := "countAll", unfollowed := true, recurses := true, apart := false }
def CountAllSaid : Prop := countAllRow.holds Try.pinned (OpenSpec.ofChange countAllSpec)

/-- ITS FALSE NEIGHBOUR: 'it returns false'. Refute it at one input. -/
def countAllWrong : ChangeSpec := { name := "countAll", fn := fun _ => fun
  | [d] => { results := [.lit (.bool false)], args := [d] }
  | _ => none }
def CountAllWrongFalsely : Prop := countAllRow.holds Try.pinned (OpenSpec.ofChange countAllWrong)

/-- 'hopperlaw12.CountNumbers': WHATEVER THE INPUT: true; the input reads as it did. -/
def countNumbersSpec : ChangeSpec := { name := "countNumbers", fn := fun _ => fun
  | [] => { results := [.lit (.bool true)], args := [] }
  | _ => none }
def countNumbersRow : OpenClaim := { program := "ytnijeemldhmkjaa", sum := "064c95fe803149d22163c3c72b8db37f4d047627e97c5a91b96ec5fea8c7e591", func := "hopper/hopperlaw12.CountNumbers", spec := "countNumbers", inPlace := ["maps.clone"], unfollowed := true, recurses := true, apart := false }
def CountNumbersSaid : Prop := countNumbersRow.holds Try.pinned (OpenSpec.ofChange countNumbersSpec)

/-- ITS FALSE NEIGHBOUR: 'it returns false'. Refute it at one input. -/
def countNumbersWrong : ChangeSpec := { name := "countNumbers", fn := fun _ => fun
  | [] => { results := [.lit (.bool false)], args := [] }
  | _ => none }
def CountNumbersWrongFalsely : Prop := countNumbersRow.holds Try.pinned (OpenSpec.ofChange countNumbersWrong)

/-- 'hopperlaw12.CountPlays': WHATEVER THE INPUT: true; the input reads as it did. -/
def countPlaysSpec : ChangeSpec := { name := "countPlays", fn := fun _ => fun
  | [d1, d2] => { results := [.lit (.bool true)], args := [d1, d2] }
  | _ => none }
def countPlaysRow : OpenClaim := { program := "ytnijeemldhmkjaa", sum := "064c95fe803149d22163c3c72b8db37f4d047627e97c5a91b96ec5fea8c7e591", func := "hopper/hopperlaw12.CountPlays", spec := "countPlays", inPlace := ["maps.clone"], unfollowed := true, recurses := true, apart := false }
def CountPlaysSaid : Prop := countPlaysRow.holds Try.pinned (OpenSpec.ofChange countPlaysSpec)

/-- ITS FALSE NEIGHBOUR: 'it returns false'. Refute it at one input. -/
def countPlaysWrong : ChangeSpec := { name := "countPlays", fn := fun _ => fun
  | [d1, d2] => { results := [.lit (.bool false)], args := [d1, d2] }
  | _ => none }
def CountPlaysWrongFalsely : Prop := countPlaysRow.holds Try.pinned (OpenSpec.ofChange countPlaysWrong)

/- THE SECOND FORM. 'bulk': how many values and letters a reading holds, each counted each time it is reached (what is shared counts as often as it is met; a slice's spare places count too). A statement '..UptoSaid' is the law's where the arguments, and the package variables that the reading takes, are together of bulk at most 1048576: NARROWER than '..Said'. Prove '..Said' where nothing that the law and all that it calls make is longer than what came in: it says more and counts as full. Else prove '..UptoSaid'. A law counts once. -/
mutual
def uptoBulk {H : Type} : DataW H → Nat
  | .lit (.string bytes) => bytes.length + 1
  | .lit _ => 1
  | .nil => 1
  | .ptr d => uptoBulk d + 1
  | .slice elems spare => uptoBulkAll elems + uptoBulkAll spare + 1
  | .agg parts => uptoBulkAll parts + 1
  | .iface _ d => uptoBulk d + 1
  | .map entries => uptoBulkEntries entries + 1
  | .held _ => 1
def uptoBulkAll {H : Type} : List (DataW H) → Nat
  | [] => 0
  | d :: r => uptoBulk d + uptoBulkAll r
def uptoBulkEntries {H : Type} : List (Lit × DataW H) → Nat
  | [] => 0
  | x :: r => uptoBulkEntry x + uptoBulkEntries r
def uptoBulkEntry {H : Type} : Lit × DataW H → Nat
  | (.string bytes, d) => bytes.length + uptoBulk d + 1
  | (_, d) => uptoBulk d + 1
 end
def uptoSmall : (H : Type) → List (DataW H) → Bool := fun _ ds => decide (uptoBulkAll ds ≤ 1048576)
def OpenSpec.upto (s : _root_.Go.ChangeSpec) : _root_.Go.OpenSpec := { _root_.Go.OpenSpec.ofChange s with cond := some uptoSmall }

/-- 'hopperlaw12.CountNever', WHERE WHAT IT READS IS OF BULK AT MOST 1048576: true; the input reads as it did. -/
def countNeverUptoRow : OpenClaim := { program := "ytnijeemldhmkjaa", sum := "064c95fe803149d22163c3c72b8db37f4d047627e97c5a91b96ec5fea8c7e591", func := "hopper/hopperlaw12.CountNever", spec := "countNever", unfollowed := true, recurses := true, apart := false, narrowed := true }
def CountNeverUptoSaid : Prop := countNeverUptoRow.holds Try.pinned (OpenSpec.upto countNeverSpec)

/-- 'hopperlaw12.CountSums', WHERE WHAT IT READS IS OF BULK AT MOST 1048576: true; the input reads as it did. -/
def countSumsUptoRow : OpenClaim := { program := "ytnijeemldhmkjaa", sum := "064c95fe803149d22163c3c72b8db37f4d047627e97c5a91b96ec5fea8c7e591", func := "hopper/hopperlaw12.CountSums", spec := "countSums", unfollowed := true, recurses := true, apart := false, narrowed := true }
def CountSumsUptoSaid : Prop := countSumsUptoRow.holds Try.pinned (OpenSpec.upto countSumsSpec)

/-- 'hopperlaw12.CountAll', WHERE WHAT IT READS IS OF BULK AT MOST 1048576: true; the input reads as it did. -/
def countAllUptoRow : OpenClaim := { program := "ytnijeemldhmkjaa", sum := "064c95fe803149d22163c3c72b8db37f4d047627e97c5a91b96ec5fea8c7e591", func := "hopper/hopperlaw12.CountAll", spec := "countAll", unfollowed := true, recurses := true, apart := false, narrowed := true }
def CountAllUptoSaid : Prop := countAllUptoRow.holds Try.pinned (OpenSpec.upto countAllSpec)

/-- 'hopperlaw12.CountNumbers', WHERE WHAT IT READS IS OF BULK AT MOST 1048576: true; the input reads as it did. -/
def countNumbersUptoRow : OpenClaim := { program := "ytnijeemldhmkjaa", sum := "064c95fe803149d22163c3c72b8db37f4d047627e97c5a91b96ec5fea8c7e591", func := "hopper/hopperlaw12.CountNumbers", spec := "countNumbers", inPlace := ["maps.clone"], unfollowed := true, recurses := true, apart := false, narrowed := true }
def CountNumbersUptoSaid : Prop := countNumbersUptoRow.holds Try.pinned (OpenSpec.upto countNumbersSpec)

/-- 'hopperlaw12.CountPlays', WHERE WHAT IT READS IS OF BULK AT MOST 1048576: true; the input reads as it did. -/
def countPlaysUptoRow : OpenClaim := { program := "ytnijeemldhmkjaa", sum := "064c95fe803149d22163c3c72b8db37f4d047627e97c5a91b96ec5fea8c7e591", func := "hopper/hopperlaw12.CountPlays", spec := "countPlays", inPlace := ["maps.clone"], unfollowed := true, recurses := true, apart := false, narrowed := true }
def CountPlaysUptoSaid : Prop := countPlaysUptoRow.holds Try.pinned (OpenSpec.upto countPlaysSpec)

end Rows
end Go.Proofs.Ytnijeemldhmkjaa
