/-
  NARROWER THAN 'FOR EVERY INPUT', by the rows' own cells (each row's printed sentence says how): TopFar: laid · TopGaps: laid · TopFolds: laid · TopEpochs: laid · TopBytes: laid · TopLedgers: laid · TopJoined: laid · TopAsks: laid.
  DERIVED. THE GIVEN ROWS OF THIS SEAT. 8 by the template 'for every input the law returns true; each argument reads behind the call as it read before'; 0 by the template 'total and deterministic' (their statements: YtmijcbfgfkeodaaGreatDoorTotals.lean).
  GIVEN WITH THE SEED: the statements are not yours to turn. If you find one false, say at which input.
  Laid BY PROGRAM, IN A SANDBOX (cutbox-rows.mjs): the forced cells as the released guide's own fill.sh prints them over the translation 6c30348f374c418e… (all of the seat's roots in one cut). By AI agents, Wed Nov 11 2026. No macro, syntax, notation, axiom, sorry.
-/
import Derived.Test.YtmijcbfgfkeodaaGreatDoorChecked
import GoSem.PinnedTables
import GoSem.Claim
import GoSem.ClaimJoined
import GoSem.ClaimMapViews
import Derived.JoinedTies
import Derived.KernelRfl
namespace Go.Proofs.YtmijcbfgfkeodaaGreatDoor
/- THE CELL 'sum', in the pinned program and in every row, IS THE sha256 OF THE DUMP (.gsa) THAT YtmijcbfgfkeodaaGreatDoorProg.lean LOADS. Nothing in Lean hashes anything: it is a label: what it is worth is what the hold of that sum in a sandbox is worth. -/
noncomputable def Tryz.pinned : Pinned := { name := "ytmijcbfgfkeodaagreatdoor", sum := "6c30348f374c418ef42d6906e9ce1873451cf8195236cb2699d7554371aa19c9", checked := Tryz.checked }
namespace Rows
def none {H : Type} : Left H := { results := [], args := [] }

/- WHAT THE LISTED PACKAGE-LEVEL VARIABLES READ AS WHEN THE CALL BEGINS. Each datum BY PROGRAM (the guide's laid-datum.mjs) off the statement by which the dump's own 'gosem.cut.vars' lays the variable. In a bare row this is a premise. The card (YtmijcbfgfkeodaaGreatDoorCards.lean) ties it to the program's text. -/
def laid_unicode_utf8_acceptRanges {H : Type} : DataW H := .agg [.agg [.lit (.int .u8 128), .lit (.int .u8 191)], .agg [.lit (.int .u8 160), .lit (.int .u8 191)], .agg [.lit (.int .u8 128), .lit (.int .u8 159)], .agg [.lit (.int .u8 144), .lit (.int .u8 191)], .agg [.lit (.int .u8 128), .lit (.int .u8 143)], .agg [.lit (.int .u8 0), .lit (.int .u8 0)], .agg [.lit (.int .u8 0), .lit (.int .u8 0)], .agg [.lit (.int .u8 0), .lit (.int .u8 0)], .agg [.lit (.int .u8 0), .lit (.int .u8 0)], .agg [.lit (.int .u8 0), .lit (.int .u8 0)], .agg [.lit (.int .u8 0), .lit (.int .u8 0)], .agg [.lit (.int .u8 0), .lit (.int .u8 0)], .agg [.lit (.int .u8 0), .lit (.int .u8 0)], .agg [.lit (.int .u8 0), .lit (.int .u8 0)], .agg [.lit (.int .u8 0), .lit (.int .u8 0)], .agg [.lit (.int .u8 0), .lit (.int .u8 0)]]
/-- One of Go's own tables, pinned by name: the form's constant. -/
def laid_unicode_utf8_first : DataW Unit := Go.Pinned.utf8First

/-- 'hoppertop.TopFar': WHATEVER THE INPUT: true; the input reads as it did. -/
def topFarSpec : ChangeSpec := { name := "topFar", fn := fun _ => fun
  | [d] => { results := [.lit (.bool true)], args := [d] }
  | _ => none }
def topFarRow : OpenClaim := { program := "ytmijcbfgfkeodaagreatdoor", sum := "6c30348f374c418ef42d6906e9ce1873451cf8195236cb2699d7554371aa19c9", func := "hopper/hoppertop.TopFar", spec := "topFar", inPlace := ["internal/bytealg.CountString", "internal/bytealg.IndexByteString", "internal/bytealg.IndexString", "internal/abi.NoEscape", "internal/bytealg.MakeNoZero"], unfollowed := true, recurses := true, named := ["unicode/utf8.first", "unicode/utf8.acceptRanges", "internal/bytealg.MaxLen"], plainKeys := false, apart := false, laid := [("unicode/utf8.acceptRanges", laid_unicode_utf8_acceptRanges), ("unicode/utf8.first", laid_unicode_utf8_first)] }
def TopFarSaid : Prop := topFarRow.holds Tryz.pinned (OpenSpec.ofChange topFarSpec)

/-- ITS FALSE NEIGHBOUR: 'it returns false'. Refute it at one input. -/
def topFarWrong : ChangeSpec := { name := "topFar", fn := fun _ => fun
  | [d] => { results := [.lit (.bool false)], args := [d] }
  | _ => none }
def TopFarWrongFalsely : Prop := topFarRow.holds Tryz.pinned (OpenSpec.ofChange topFarWrong)

/-- 'hoppertop.TopGaps': WHATEVER THE INPUT: true; the input reads as it did. -/
def topGapsSpec : ChangeSpec := { name := "topGaps", fn := fun _ => fun
  | [d1, d2] => { results := [.lit (.bool true)], args := [d1, d2] }
  | _ => none }
def topGapsRow : OpenClaim := { program := "ytmijcbfgfkeodaagreatdoor", sum := "6c30348f374c418ef42d6906e9ce1873451cf8195236cb2699d7554371aa19c9", func := "hopper/hoppertop.TopGaps", spec := "topGaps", inPlace := ["internal/bytealg.CountString", "internal/bytealg.IndexByteString", "internal/bytealg.IndexString", "internal/abi.NoEscape", "internal/bytealg.MakeNoZero"], unfollowed := true, recurses := true, named := ["unicode/utf8.first", "unicode/utf8.acceptRanges", "internal/bytealg.MaxLen"], plainKeys := false, apart := false, laid := [("unicode/utf8.acceptRanges", laid_unicode_utf8_acceptRanges), ("unicode/utf8.first", laid_unicode_utf8_first)] }
def TopGapsSaid : Prop := topGapsRow.holds Tryz.pinned (OpenSpec.ofChange topGapsSpec)

/-- ITS FALSE NEIGHBOUR: 'it returns false'. Refute it at one input. -/
def topGapsWrong : ChangeSpec := { name := "topGaps", fn := fun _ => fun
  | [d1, d2] => { results := [.lit (.bool false)], args := [d1, d2] }
  | _ => none }
def TopGapsWrongFalsely : Prop := topGapsRow.holds Tryz.pinned (OpenSpec.ofChange topGapsWrong)

/-- 'hoppertop.TopFolds': WHATEVER THE INPUT: true; the input reads as it did. -/
def topFoldsSpec : ChangeSpec := { name := "topFolds", fn := fun _ => fun
  | [d] => { results := [.lit (.bool true)], args := [d] }
  | _ => none }
def topFoldsRow : OpenClaim := { program := "ytmijcbfgfkeodaagreatdoor", sum := "6c30348f374c418ef42d6906e9ce1873451cf8195236cb2699d7554371aa19c9", func := "hopper/hoppertop.TopFolds", spec := "topFolds", inPlace := ["internal/bytealg.CountString", "internal/bytealg.IndexByteString", "internal/bytealg.IndexString", "internal/abi.NoEscape", "internal/bytealg.MakeNoZero"], unfollowed := true, recurses := true, named := ["unicode/utf8.first", "unicode/utf8.acceptRanges", "internal/bytealg.MaxLen"], plainKeys := false, apart := false, laid := [("unicode/utf8.acceptRanges", laid_unicode_utf8_acceptRanges), ("unicode/utf8.first", laid_unicode_utf8_first)] }
def TopFoldsSaid : Prop := topFoldsRow.holds Tryz.pinned (OpenSpec.ofChange topFoldsSpec)

/-- ITS FALSE NEIGHBOUR: 'it returns false'. Refute it at one input. -/
def topFoldsWrong : ChangeSpec := { name := "topFolds", fn := fun _ => fun
  | [d] => { results := [.lit (.bool false)], args := [d] }
  | _ => none }
def TopFoldsWrongFalsely : Prop := topFoldsRow.holds Tryz.pinned (OpenSpec.ofChange topFoldsWrong)

/-- 'hoppertop.TopEpochs': WHATEVER THE INPUT: true; the input reads as it did. -/
def topEpochsSpec : ChangeSpec := { name := "topEpochs", fn := fun _ => fun
  | [d1, d2] => { results := [.lit (.bool true)], args := [d1, d2] }
  | _ => none }
def topEpochsRow : OpenClaim := { program := "ytmijcbfgfkeodaagreatdoor", sum := "6c30348f374c418ef42d6906e9ce1873451cf8195236cb2699d7554371aa19c9", func := "hopper/hoppertop.TopEpochs", spec := "topEpochs", inPlace := ["internal/bytealg.CountString", "internal/bytealg.IndexByteString", "internal/bytealg.IndexString", "internal/abi.NoEscape", "internal/bytealg.MakeNoZero"], unfollowed := true, recurses := true, named := ["unicode/utf8.first", "unicode/utf8.acceptRanges", "internal/bytealg.MaxLen"], plainKeys := false, apart := false, laid := [("unicode/utf8.acceptRanges", laid_unicode_utf8_acceptRanges), ("unicode/utf8.first", laid_unicode_utf8_first)] }
def TopEpochsSaid : Prop := topEpochsRow.holds Tryz.pinned (OpenSpec.ofChange topEpochsSpec)

/-- ITS FALSE NEIGHBOUR: 'it returns false'. Refute it at one input. -/
def topEpochsWrong : ChangeSpec := { name := "topEpochs", fn := fun _ => fun
  | [d1, d2] => { results := [.lit (.bool false)], args := [d1, d2] }
  | _ => none }
def TopEpochsWrongFalsely : Prop := topEpochsRow.holds Tryz.pinned (OpenSpec.ofChange topEpochsWrong)

/-- 'hoppertop.TopBytes': WHATEVER THE INPUT: true; the input reads as it did. -/
def topBytesSpec : ChangeSpec := { name := "topBytes", fn := fun _ => fun
  | [d1, d2, d3] => { results := [.lit (.bool true)], args := [d1, d2, d3] }
  | _ => none }
def topBytesRow : OpenClaim := { program := "ytmijcbfgfkeodaagreatdoor", sum := "6c30348f374c418ef42d6906e9ce1873451cf8195236cb2699d7554371aa19c9", func := "hopper/hoppertop.TopBytes", spec := "topBytes", inPlace := ["internal/bytealg.CountString", "internal/bytealg.IndexByteString", "internal/bytealg.IndexString", "internal/abi.NoEscape", "internal/bytealg.MakeNoZero"], unfollowed := true, recurses := true, named := ["unicode/utf8.first", "unicode/utf8.acceptRanges", "internal/bytealg.MaxLen"], plainKeys := false, apart := false, laid := [("unicode/utf8.acceptRanges", laid_unicode_utf8_acceptRanges), ("unicode/utf8.first", laid_unicode_utf8_first)] }
def TopBytesSaid : Prop := topBytesRow.holds Tryz.pinned (OpenSpec.ofChange topBytesSpec)

/-- ITS FALSE NEIGHBOUR: 'it returns false'. Refute it at one input. -/
def topBytesWrong : ChangeSpec := { name := "topBytes", fn := fun _ => fun
  | [d1, d2, d3] => { results := [.lit (.bool false)], args := [d1, d2, d3] }
  | _ => none }
def TopBytesWrongFalsely : Prop := topBytesRow.holds Tryz.pinned (OpenSpec.ofChange topBytesWrong)

/-- 'hoppertop.TopLedgers': WHATEVER THE INPUT: true; the input reads as it did. -/
def topLedgersSpec : ChangeSpec := { name := "topLedgers", fn := fun _ => fun
  | [d] => { results := [.lit (.bool true)], args := [d] }
  | _ => none }
def topLedgersRow : OpenClaim := { program := "ytmijcbfgfkeodaagreatdoor", sum := "6c30348f374c418ef42d6906e9ce1873451cf8195236cb2699d7554371aa19c9", func := "hopper/hoppertop.TopLedgers", spec := "topLedgers", inPlace := ["internal/bytealg.CountString", "internal/bytealg.IndexByteString", "internal/bytealg.IndexString", "internal/abi.NoEscape", "internal/bytealg.MakeNoZero"], unfollowed := true, recurses := true, named := ["unicode/utf8.first", "unicode/utf8.acceptRanges", "internal/bytealg.MaxLen"], plainKeys := false, apart := false, laid := [("unicode/utf8.acceptRanges", laid_unicode_utf8_acceptRanges), ("unicode/utf8.first", laid_unicode_utf8_first)] }
def TopLedgersSaid : Prop := topLedgersRow.holds Tryz.pinned (OpenSpec.ofChange topLedgersSpec)

/-- ITS FALSE NEIGHBOUR: 'it returns false'. Refute it at one input. -/
def topLedgersWrong : ChangeSpec := { name := "topLedgers", fn := fun _ => fun
  | [d] => { results := [.lit (.bool false)], args := [d] }
  | _ => none }
def TopLedgersWrongFalsely : Prop := topLedgersRow.holds Tryz.pinned (OpenSpec.ofChange topLedgersWrong)

/-- 'hoppertop.TopJoined': WHATEVER THE INPUT: true; the input reads as it did. -/
def topJoinedSpec : ChangeSpec := { name := "topJoined", fn := fun _ => fun
  | [d] => { results := [.lit (.bool true)], args := [d] }
  | _ => none }
def topJoinedRow : OpenClaim := { program := "ytmijcbfgfkeodaagreatdoor", sum := "6c30348f374c418ef42d6906e9ce1873451cf8195236cb2699d7554371aa19c9", func := "hopper/hoppertop.TopJoined", spec := "topJoined", inPlace := ["internal/bytealg.CountString", "internal/bytealg.IndexByteString", "internal/bytealg.IndexString", "internal/abi.NoEscape", "internal/bytealg.MakeNoZero"], unfollowed := true, recurses := true, named := ["unicode/utf8.first", "unicode/utf8.acceptRanges", "internal/bytealg.MaxLen"], plainKeys := false, apart := false, laid := [("unicode/utf8.acceptRanges", laid_unicode_utf8_acceptRanges), ("unicode/utf8.first", laid_unicode_utf8_first)] }
def TopJoinedSaid : Prop := topJoinedRow.holds Tryz.pinned (OpenSpec.ofChange topJoinedSpec)

/-- ITS FALSE NEIGHBOUR: 'it returns false'. Refute it at one input. -/
def topJoinedWrong : ChangeSpec := { name := "topJoined", fn := fun _ => fun
  | [d] => { results := [.lit (.bool false)], args := [d] }
  | _ => none }
def TopJoinedWrongFalsely : Prop := topJoinedRow.holds Tryz.pinned (OpenSpec.ofChange topJoinedWrong)

/-- 'hoppertop.TopAsks': WHATEVER THE INPUT: true; the input reads as it did. -/
def topAsksSpec : ChangeSpec := { name := "topAsks", fn := fun _ => fun
  | [d1, d2] => { results := [.lit (.bool true)], args := [d1, d2] }
  | _ => none }
def topAsksRow : OpenClaim := { program := "ytmijcbfgfkeodaagreatdoor", sum := "6c30348f374c418ef42d6906e9ce1873451cf8195236cb2699d7554371aa19c9", func := "hopper/hoppertop.TopAsks", spec := "topAsks", inPlace := ["internal/bytealg.CountString", "internal/bytealg.IndexByteString", "internal/bytealg.IndexString", "internal/abi.NoEscape", "internal/bytealg.MakeNoZero"], unfollowed := true, recurses := true, named := ["unicode/utf8.first", "unicode/utf8.acceptRanges", "internal/bytealg.MaxLen"], plainKeys := false, apart := false, laid := [("unicode/utf8.acceptRanges", laid_unicode_utf8_acceptRanges), ("unicode/utf8.first", laid_unicode_utf8_first)] }
def TopAsksSaid : Prop := topAsksRow.holds Tryz.pinned (OpenSpec.ofChange topAsksSpec)

/-- ITS FALSE NEIGHBOUR: 'it returns false'. Refute it at one input. -/
def topAsksWrong : ChangeSpec := { name := "topAsks", fn := fun _ => fun
  | [d1, d2] => { results := [.lit (.bool false)], args := [d1, d2] }
  | _ => none }
def TopAsksWrongFalsely : Prop := topAsksRow.holds Tryz.pinned (OpenSpec.ofChange topAsksWrong)

/- THE SECOND FORM. 'bulk': how many values and letters a reading holds, each counted each time it is reached (what is shared counts as often as it is met; a slice's spare places count too). A statement '..UptoSaid' is the law's where the arguments, and the package variables that the reading takes, are together of bulk at most 1048576: NARROWER than '..Said'. Prove '..Said' where nothing that the law and all that it calls make is longer than what came in: it says more and counts as full. Else prove '..UptoSaid'. A law counts once. -/
mutual
def uptoBulk {H : Type} : DataW H → Nat
  | .lit (.string bytes) => bytes.length + 1
  | .lit _ => 1
  | .nil => 1
  | .ptr d => uptoBulk d + 1
  | .slice elems spare => uptoBulkAll elems + uptoBulkAll spare + 1
  | .agg parts => uptoBulkAll parts + 1
  | .iface _ d => uptoBulk d + 1
  | .map entries => uptoBulkEntries entries + 1
  | .held _ => 1
def uptoBulkAll {H : Type} : List (DataW H) → Nat
  | [] => 0
  | d :: r => uptoBulk d + uptoBulkAll r
def uptoBulkEntries {H : Type} : List (Lit × DataW H) → Nat
  | [] => 0
  | x :: r => uptoBulkEntry x + uptoBulkEntries r
def uptoBulkEntry {H : Type} : Lit × DataW H → Nat
  | (.string bytes, d) => bytes.length + uptoBulk d + 1
  | (_, d) => uptoBulk d + 1
 end
def uptoSmall : (H : Type) → List (DataW H) → Bool := fun _ ds => decide (uptoBulkAll ds ≤ 1048576)
def OpenSpec.upto (s : _root_.Go.ChangeSpec) : _root_.Go.OpenSpec := { _root_.Go.OpenSpec.ofChange s with cond := some uptoSmall }

/-- 'hoppertop.TopFar', WHERE WHAT IT READS IS OF BULK AT MOST 1048576: true; the input reads as it did. -/
def topFarUptoRow : OpenClaim := { program := "ytmijcbfgfkeodaagreatdoor", sum := "6c30348f374c418ef42d6906e9ce1873451cf8195236cb2699d7554371aa19c9", func := "hopper/hoppertop.TopFar", spec := "topFar", inPlace := ["internal/bytealg.CountString", "internal/bytealg.IndexByteString", "internal/bytealg.IndexString", "internal/abi.NoEscape", "internal/bytealg.MakeNoZero"], unfollowed := true, recurses := true, named := ["unicode/utf8.first", "unicode/utf8.acceptRanges", "internal/bytealg.MaxLen"], plainKeys := false, apart := false, laid := [("unicode/utf8.acceptRanges", laid_unicode_utf8_acceptRanges), ("unicode/utf8.first", laid_unicode_utf8_first)], narrowed := true }
def TopFarUptoSaid : Prop := topFarUptoRow.holds Tryz.pinned (OpenSpec.upto topFarSpec)

/-- 'hoppertop.TopGaps', WHERE WHAT IT READS IS OF BULK AT MOST 1048576: true; the input reads as it did. -/
def topGapsUptoRow : OpenClaim := { program := "ytmijcbfgfkeodaagreatdoor", sum := "6c30348f374c418ef42d6906e9ce1873451cf8195236cb2699d7554371aa19c9", func := "hopper/hoppertop.TopGaps", spec := "topGaps", inPlace := ["internal/bytealg.CountString", "internal/bytealg.IndexByteString", "internal/bytealg.IndexString", "internal/abi.NoEscape", "internal/bytealg.MakeNoZero"], unfollowed := true, recurses := true, named := ["unicode/utf8.first", "unicode/utf8.acceptRanges", "internal/bytealg.MaxLen"], plainKeys := false, apart := false, laid := [("unicode/utf8.acceptRanges", laid_unicode_utf8_acceptRanges), ("unicode/utf8.first", laid_unicode_utf8_first)], narrowed := true }
def TopGapsUptoSaid : Prop := topGapsUptoRow.holds Tryz.pinned (OpenSpec.upto topGapsSpec)

/-- 'hoppertop.TopFolds', WHERE WHAT IT READS IS OF BULK AT MOST 1048576: true; the input reads as it did. -/
def topFoldsUptoRow : OpenClaim := { program := "ytmijcbfgfkeodaagreatdoor", sum := "6c30348f374c418ef42d6906e9ce1873451cf8195236cb2699d7554371aa19c9", func := "hopper/hoppertop.TopFolds", spec := "topFolds", inPlace := ["internal/bytealg.CountString", "internal/bytealg.IndexByteString", "internal/bytealg.IndexString", "internal/abi.NoEscape", "internal/bytealg.MakeNoZero"], unfollowed := true, recurses := true, named := ["unicode/utf8.first", "unicode/utf8.acceptRanges", "internal/bytealg.MaxLen"], plainKeys := false, apart := false, laid := [("unicode/utf8.acceptRanges", laid_unicode_utf8_acceptRanges), ("unicode/utf8.first", laid_unicode_utf8_first)], narrowed := true }
def TopFoldsUptoSaid : Prop := topFoldsUptoRow.holds Tryz.pinned (OpenSpec.upto topFoldsSpec)

/-- 'hoppertop.TopEpochs', WHERE WHAT IT READS IS OF BULK AT MOST 1048576: true; the input reads as it did. -/
def topEpochsUptoRow : OpenClaim := { program := "ytmijcbfgfkeodaagreatdoor", sum := "6c30348f374c418ef42d6906e9ce1873451cf8195236cb2699d7554371aa19c9", func := "hopper/hoppertop.TopEpochs", spec := "topEpochs", inPlace := ["internal/bytealg.CountString", "internal/bytealg.IndexByteString", "internal/bytealg.IndexString", "internal/abi.NoEscape", "internal/bytealg.MakeNoZero"], unfollowed := true, recurses := true, named := ["unicode/utf8.first", "unicode/utf8.acceptRanges", "internal/bytealg.MaxLen"], plainKeys := false, apart := false, laid := [("unicode/utf8.acceptRanges", laid_unicode_utf8_acceptRanges), ("unicode/utf8.first", laid_unicode_utf8_first)], narrowed := true }
def TopEpochsUptoSaid : Prop := topEpochsUptoRow.holds Tryz.pinned (OpenSpec.upto topEpochsSpec)

/-- 'hoppertop.TopBytes', WHERE WHAT IT READS IS OF BULK AT MOST 1048576: true; the input reads as it did. -/
def topBytesUptoRow : OpenClaim := { program := "ytmijcbfgfkeodaagreatdoor", sum := "6c30348f374c418ef42d6906e9ce1873451cf8195236cb2699d7554371aa19c9", func := "hopper/hoppertop.TopBytes", spec := "topBytes", inPlace := ["internal/bytealg.CountString", "internal/bytealg.IndexByteString", "internal/bytealg.IndexString", "internal/abi.NoEscape", "internal/bytealg.MakeNoZero"], unfollowed := true, recurses := true, named := ["unicode/utf8.first", "unicode/utf8.acceptRanges", "internal/bytealg.MaxLen"], plainKeys := false, apart := false, laid := [("unicode/utf8.acceptRanges", laid_unicode_utf8_acceptRanges), ("unicode/utf8.first", laid_unicode_utf8_first)], narrowed := true }
def TopBytesUptoSaid : Prop := topBytesUptoRow.holds Tryz.pinned (OpenSpec.upto topBytesSpec)

/-- 'hoppertop.TopLedgers', WHERE WHAT IT READS IS OF BULK AT MOST 1048576: true; the input reads as it did. -/
def topLedgersUptoRow : OpenClaim := { program := "ytmijcbfgfkeodaagreatdoor", sum := "6c30348f374c418ef42d6906e9ce1873451cf8195236cb2699d7554371aa19c9", func := "hopper/hoppertop.TopLedgers", spec := "topLedgers", inPlace := ["internal/bytealg.CountString", "internal/bytealg.IndexByteString", "internal/bytealg.IndexString", "internal/abi.NoEscape", "internal/bytealg.MakeNoZero"], unfollowed := true, recurses := true, named := ["unicode/utf8.first", "unicode/utf8.acceptRanges", "internal/bytealg.MaxLen"], plainKeys := false, apart := false, laid := [("unicode/utf8.acceptRanges", laid_unicode_utf8_acceptRanges), ("unicode/utf8.first", laid_unicode_utf8_first)], narrowed := true }
def TopLedgersUptoSaid : Prop := topLedgersUptoRow.holds Tryz.pinned (OpenSpec.upto topLedgersSpec)

/-- 'hoppertop.TopJoined', WHERE WHAT IT READS IS OF BULK AT MOST 1048576: true; the input reads as it did. -/
def topJoinedUptoRow : OpenClaim := { program := "ytmijcbfgfkeodaagreatdoor", sum := "6c30348f374c418ef42d6906e9ce1873451cf8195236cb2699d7554371aa19c9", func := "hopper/hoppertop.TopJoined", spec := "topJoined", inPlace := ["internal/bytealg.CountString", "internal/bytealg.IndexByteString", "internal/bytealg.IndexString", "internal/abi.NoEscape", "internal/bytealg.MakeNoZero"], unfollowed := true, recurses := true, named := ["unicode/utf8.first", "unicode/utf8.acceptRanges", "internal/bytealg.MaxLen"], plainKeys := false, apart := false, laid := [("unicode/utf8.acceptRanges", laid_unicode_utf8_acceptRanges), ("unicode/utf8.first", laid_unicode_utf8_first)], narrowed := true }
def TopJoinedUptoSaid : Prop := topJoinedUptoRow.holds Tryz.pinned (OpenSpec.upto topJoinedSpec)

/-- 'hoppertop.TopAsks', WHERE WHAT IT READS IS OF BULK AT MOST 1048576: true; the input reads as it did. -/
def topAsksUptoRow : OpenClaim := { program := "ytmijcbfgfkeodaagreatdoor", sum := "6c30348f374c418ef42d6906e9ce1873451cf8195236cb2699d7554371aa19c9", func := "hopper/hoppertop.TopAsks", spec := "topAsks", inPlace := ["internal/bytealg.CountString", "internal/bytealg.IndexByteString", "internal/bytealg.IndexString", "internal/abi.NoEscape", "internal/bytealg.MakeNoZero"], unfollowed := true, recurses := true, named := ["unicode/utf8.first", "unicode/utf8.acceptRanges", "internal/bytealg.MaxLen"], plainKeys := false, apart := false, laid := [("unicode/utf8.acceptRanges", laid_unicode_utf8_acceptRanges), ("unicode/utf8.first", laid_unicode_utf8_first)], narrowed := true }
def TopAsksUptoSaid : Prop := topAsksUptoRow.holds Tryz.pinned (OpenSpec.upto topAsksSpec)

end Rows
end Go.Proofs.YtmijcbfgfkeodaaGreatDoor
