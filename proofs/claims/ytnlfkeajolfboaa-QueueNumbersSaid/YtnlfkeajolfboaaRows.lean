/-
  No cell of these rows narrows 'for every input' (looked for: loops, veiled, ifaces, maps, wideKeys, modest, calm, conditions, laid).
  DERIVED. THE GIVEN ROWS OF THIS SEAT. 5 by the template 'for every input the law returns true; each argument reads behind the call as it read before'; 0 by the template 'total and deterministic' (their statements: YtnlfkeajolfboaaTotals.lean).
  GIVEN WITH THE SEED: the statements are not yours to turn. If you find one false, say at which input.
  Laid BY PROGRAM, IN A SANDBOX (cutbox-rows.mjs): the forced cells as the released guide's own fill.sh prints them over the translation 076b2b18570a9a8c… (all of the seat's roots in one cut). By AI agents, Wed Nov 11 2026. No macro, syntax, notation, axiom, sorry.
-/
import Derived.Test.YtnlfkeajolfboaaChecked
import GoSem.Claim
import GoSem.ClaimJoined
import GoSem.ClaimMapViews
import Derived.JoinedTies
import Derived.KernelRfl
namespace Go.Proofs.Ytnlfkeajolfboaa
/- THE CELL 'sum', in the pinned program and in every row, IS THE sha256 OF THE DUMP (.gsa) THAT YtnlfkeajolfboaaProg.lean LOADS. Nothing in Lean hashes anything: it is a label: what it is worth is what the hold of that sum in a sandbox is worth. -/
noncomputable def Try.pinned : Pinned := { name := "ytnlfkeajolfboaa", sum := "076b2b18570a9a8cb13b4116f18e7b2ffa98398f0065f6065fcbe05bc02d0e6b", checked := Try.checked }
namespace Rows
def none {H : Type} : Left H := { results := [], args := [] }

/-- 'hopperlaw18.QueueSeqs': WHATEVER THE INPUT: true; the input reads as it did. -/
def queueSeqsSpec : ChangeSpec := { name := "queueSeqs", fn := fun _ => fun
  | [d] => { results := [.lit (.bool true)], args := [d] }
  | _ => none }
def queueSeqsRow : OpenClaim := { program := "ytnlfkeajolfboaa", sum := "076b2b18570a9a8cb13b4116f18e7b2ffa98398f0065f6065fcbe05bc02d0e6b", func := "hopper/hopperlaw18.QueueSeqs", spec := "queueSeqs", unfollowed := true, recurses := true, apart := false }
def QueueSeqsSaid : Prop := queueSeqsRow.holds Try.pinned (OpenSpec.ofChange queueSeqsSpec)

/-- ITS FALSE NEIGHBOUR: 'it returns false'. Refute it at one input. -/
def queueSeqsWrong : ChangeSpec := { name := "queueSeqs", fn := fun _ => fun
  | [d] => { results := [.lit (.bool false)], args := [d] }
  | _ => none }
def QueueSeqsWrongFalsely : Prop := queueSeqsRow.holds Try.pinned (OpenSpec.ofChange queueSeqsWrong)

/-- 'hopperlaw18.QueueNumbers': WHATEVER THE INPUT: true; the input reads as it did. -/
def queueNumbersSpec : ChangeSpec := { name := "queueNumbers", fn := fun _ => fun
  | [] => { results := [.lit (.bool true)], args := [] }
  | _ => none }
def queueNumbersRow : OpenClaim := { program := "ytnlfkeajolfboaa", sum := "076b2b18570a9a8cb13b4116f18e7b2ffa98398f0065f6065fcbe05bc02d0e6b", func := "hopper/hopperlaw18.QueueNumbers", spec := "queueNumbers", unfollowed := true, recurses := true, apart := false }
def QueueNumbersSaid : Prop := queueNumbersRow.holds Try.pinned (OpenSpec.ofChange queueNumbersSpec)

/-- ITS FALSE NEIGHBOUR: 'it returns false'. Refute it at one input. -/
def queueNumbersWrong : ChangeSpec := { name := "queueNumbers", fn := fun _ => fun
  | [] => { results := [.lit (.bool false)], args := [] }
  | _ => none }
def QueueNumbersWrongFalsely : Prop := queueNumbersRow.holds Try.pinned (OpenSpec.ofChange queueNumbersWrong)

/-- 'hopperlaw18.QueuePlays': WHATEVER THE INPUT: true; the input reads as it did. -/
def queuePlaysSpec : ChangeSpec := { name := "queuePlays", fn := fun _ => fun
  | [d] => { results := [.lit (.bool true)], args := [d] }
  | _ => none }
def queuePlaysRow : OpenClaim := { program := "ytnlfkeajolfboaa", sum := "076b2b18570a9a8cb13b4116f18e7b2ffa98398f0065f6065fcbe05bc02d0e6b", func := "hopper/hopperlaw18.QueuePlays", spec := "queuePlays", unfollowed := true, recurses := true, apart := false }
def QueuePlaysSaid : Prop := queuePlaysRow.holds Try.pinned (OpenSpec.ofChange queuePlaysSpec)

/-- ITS FALSE NEIGHBOUR: 'it returns false'. Refute it at one input. -/
def queuePlaysWrong : ChangeSpec := { name := "queuePlays", fn := fun _ => fun
  | [d] => { results := [.lit (.bool false)], args := [d] }
  | _ => none }
def QueuePlaysWrongFalsely : Prop := queuePlaysRow.holds Try.pinned (OpenSpec.ofChange queuePlaysWrong)

/-- 'hopperlaw18.QueueOrder': WHATEVER THE INPUT: true; the input reads as it did. -/
def queueOrderSpec : ChangeSpec := { name := "queueOrder", fn := fun _ => fun
  | [d1, d2] => { results := [.lit (.bool true)], args := [d1, d2] }
  | _ => none }
def queueOrderRow : OpenClaim := { program := "ytnlfkeajolfboaa", sum := "076b2b18570a9a8cb13b4116f18e7b2ffa98398f0065f6065fcbe05bc02d0e6b", func := "hopper/hopperlaw18.QueueOrder", spec := "queueOrder", unfollowed := true, recurses := true, apart := false }
def QueueOrderSaid : Prop := queueOrderRow.holds Try.pinned (OpenSpec.ofChange queueOrderSpec)

/-- ITS FALSE NEIGHBOUR: 'it returns false'. Refute it at one input. -/
def queueOrderWrong : ChangeSpec := { name := "queueOrder", fn := fun _ => fun
  | [d1, d2] => { results := [.lit (.bool false)], args := [d1, d2] }
  | _ => none }
def QueueOrderWrongFalsely : Prop := queueOrderRow.holds Try.pinned (OpenSpec.ofChange queueOrderWrong)

/-- 'hopperlaw18.QueueFlights': WHATEVER THE INPUT: true; the input reads as it did. -/
def queueFlightsSpec : ChangeSpec := { name := "queueFlights", fn := fun _ => fun
  | [d1, d2] => { results := [.lit (.bool true)], args := [d1, d2] }
  | _ => none }
def queueFlightsRow : OpenClaim := { program := "ytnlfkeajolfboaa", sum := "076b2b18570a9a8cb13b4116f18e7b2ffa98398f0065f6065fcbe05bc02d0e6b", func := "hopper/hopperlaw18.QueueFlights", spec := "queueFlights", unfollowed := true, recurses := true, apart := false }
def QueueFlightsSaid : Prop := queueFlightsRow.holds Try.pinned (OpenSpec.ofChange queueFlightsSpec)

/-- ITS FALSE NEIGHBOUR: 'it returns false'. Refute it at one input. -/
def queueFlightsWrong : ChangeSpec := { name := "queueFlights", fn := fun _ => fun
  | [d1, d2] => { results := [.lit (.bool false)], args := [d1, d2] }
  | _ => none }
def QueueFlightsWrongFalsely : Prop := queueFlightsRow.holds Try.pinned (OpenSpec.ofChange queueFlightsWrong)

/- THE SECOND FORM. 'bulk': how many values and letters a reading holds, each counted each time it is reached (what is shared counts as often as it is met; a slice's spare places count too). A statement '..UptoSaid' is the law's where the arguments, and the package variables that the reading takes, are together of bulk at most 1048576: NARROWER than '..Said'. Prove '..Said' where nothing that the law and all that it calls make is longer than what came in: it says more and counts as full. Else prove '..UptoSaid'. A law counts once. -/
mutual
def uptoBulk {H : Type} : DataW H → Nat
  | .lit (.string bytes) => bytes.length + 1
  | .lit _ => 1
  | .nil => 1
  | .ptr d => uptoBulk d + 1
  | .slice elems spare => uptoBulkAll elems + uptoBulkAll spare + 1
  | .agg parts => uptoBulkAll parts + 1
  | .iface _ d => uptoBulk d + 1
  | .map entries => uptoBulkEntries entries + 1
  | .held _ => 1
def uptoBulkAll {H : Type} : List (DataW H) → Nat
  | [] => 0
  | d :: r => uptoBulk d + uptoBulkAll r
def uptoBulkEntries {H : Type} : List (Lit × DataW H) → Nat
  | [] => 0
  | x :: r => uptoBulkEntry x + uptoBulkEntries r
def uptoBulkEntry {H : Type} : Lit × DataW H → Nat
  | (.string bytes, d) => bytes.length + uptoBulk d + 1
  | (_, d) => uptoBulk d + 1
 end
def uptoSmall : (H : Type) → List (DataW H) → Bool := fun _ ds => decide (uptoBulkAll ds ≤ 1048576)
def OpenSpec.upto (s : _root_.Go.ChangeSpec) : _root_.Go.OpenSpec := { _root_.Go.OpenSpec.ofChange s with cond := some uptoSmall }

/-- 'hopperlaw18.QueueSeqs', WHERE WHAT IT READS IS OF BULK AT MOST 1048576: true; the input reads as it did. -/
def queueSeqsUptoRow : OpenClaim := { program := "ytnlfkeajolfboaa", sum := "076b2b18570a9a8cb13b4116f18e7b2ffa98398f0065f6065fcbe05bc02d0e6b", func := "hopper/hopperlaw18.QueueSeqs", spec := "queueSeqs", unfollowed := true, recurses := true, apart := false, narrowed := true }
def QueueSeqsUptoSaid : Prop := queueSeqsUptoRow.holds Try.pinned (OpenSpec.upto queueSeqsSpec)

/-- 'hopperlaw18.QueueNumbers', WHERE WHAT IT READS IS OF BULK AT MOST 1048576: true; the input reads as it did. -/
def queueNumbersUptoRow : OpenClaim := { program := "ytnlfkeajolfboaa", sum := "076b2b18570a9a8cb13b4116f18e7b2ffa98398f0065f6065fcbe05bc02d0e6b", func := "hopper/hopperlaw18.QueueNumbers", spec := "queueNumbers", unfollowed := true, recurses := true, apart := false, narrowed := true }
def QueueNumbersUptoSaid : Prop := queueNumbersUptoRow.holds Try.pinned (OpenSpec.upto queueNumbersSpec)

/-- 'hopperlaw18.QueuePlays', WHERE WHAT IT READS IS OF BULK AT MOST 1048576: true; the input reads as it did. -/
def queuePlaysUptoRow : OpenClaim := { program := "ytnlfkeajolfboaa", sum := "076b2b18570a9a8cb13b4116f18e7b2ffa98398f0065f6065fcbe05bc02d0e6b", func := "hopper/hopperlaw18.QueuePlays", spec := "queuePlays", unfollowed := true, recurses := true, apart := false, narrowed := true }
def QueuePlaysUptoSaid : Prop := queuePlaysUptoRow.holds Try.pinned (OpenSpec.upto queuePlaysSpec)

/-- 'hopperlaw18.QueueOrder', WHERE WHAT IT READS IS OF BULK AT MOST 1048576: true; the input reads as it did. -/
def queueOrderUptoRow : OpenClaim := { program := "ytnlfkeajolfboaa", sum := "076b2b18570a9a8cb13b4116f18e7b2ffa98398f0065f6065fcbe05bc02d0e6b", func := "hopper/hopperlaw18.QueueOrder", spec := "queueOrder", unfollowed := true, recurses := true, apart := false, narrowed := true }
def QueueOrderUptoSaid : Prop := queueOrderUptoRow.holds Try.pinned (OpenSpec.upto queueOrderSpec)

/-- 'hopperlaw18.QueueFlights', WHERE WHAT IT READS IS OF BULK AT MOST 1048576: true; the input reads as it did. -/
def queueFlightsUptoRow : OpenClaim := { program := "ytnlfkeajolfboaa", sum := "076b2b18570a9a8cb13b4116f18e7b2ffa98398f0065f6065fcbe05bc02d0e6b", func := "hopper/hopperlaw18.QueueFlights", spec := "queueFlights", unfollowed := true, recurses := true, apart := false, narrowed := true }
def QueueFlightsUptoSaid : Prop := queueFlightsUptoRow.holds Try.pinned (OpenSpec.upto queueFlightsSpec)

end Rows
end Go.Proofs.Ytnlfkeajolfboaa
