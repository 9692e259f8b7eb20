/-
  NARROWER THAN 'FOR EVERY INPUT', by the rows' own cells (each row's printed sentence says how): TopBytes: laid · TopLedgers: laid · TopJoined: laid · TopAsks: laid · TopLeaders: laid · TopCrashes: laid · TopSame: laid · TopDisks: laid · TopEmpty: laid · TopMinority: laid · TopSeries: laid · TopFive: laid.
  DERIVED. THE GIVEN ROWS OF THIS SEAT. 12 by the template 'for every input the law returns true; each argument reads behind the call as it read before'; 0 by the template 'total and deterministic' (their statements: YtpeepcmdehhbgaaGreatDoorTotals.lean).
  GIVEN WITH THE SEED: the statements are not yours to turn. If you find one false, say at which input.
  Laid BY PROGRAM, IN A SANDBOX (cutbox-rows.mjs): the forced cells as the released guide's own fill.sh prints them over the translation 5e4e6eb8ae91dafe… (all of the seat's roots in one cut). By AI agents, Wed Nov 11 2026. No macro, syntax, notation, axiom, sorry.
-/
import Derived.Test.YtpeepcmdehhbgaaGreatDoorChecked
import GoSem.PinnedTables
import GoSem.Claim
import GoSem.ClaimJoined
import GoSem.ClaimMapViews
import Derived.JoinedTies
import Derived.KernelRfl
namespace Go.Proofs.YtpeepcmdehhbgaaGreatDoor
/- THE CELL 'sum', in the pinned program and in every row, IS THE sha256 OF THE DUMP (.gsa) THAT YtpeepcmdehhbgaaGreatDoorProg.lean LOADS. Nothing in Lean hashes anything: it is a label: what it is worth is what the hold of that sum in a sandbox is worth. -/
noncomputable def Tryz.pinned : Pinned := { name := "ytpeepcmdehhbgaagreatdoor", sum := "5e4e6eb8ae91dafe53cf7b1da440ecf238f1c462cfd7d5478c953f6e6294a449", checked := Tryz.checked }
namespace Rows
def none {H : Type} : Left H := { results := [], args := [] }

/- WHAT THE LISTED PACKAGE-LEVEL VARIABLES READ AS WHEN THE CALL BEGINS. Each datum BY PROGRAM (the guide's laid-datum.mjs) off the statement by which the dump's own 'gosem.cut.vars' lays the variable. In a bare row this is a premise. The card (YtpeepcmdehhbgaaGreatDoorCards.lean) ties it to the program's text. -/
def laid_unicode_utf8_acceptRanges {H : Type} : DataW H := .agg [.agg [.lit (.int .u8 128), .lit (.int .u8 191)], .agg [.lit (.int .u8 160), .lit (.int .u8 191)], .agg [.lit (.int .u8 128), .lit (.int .u8 159)], .agg [.lit (.int .u8 144), .lit (.int .u8 191)], .agg [.lit (.int .u8 128), .lit (.int .u8 143)], .agg [.lit (.int .u8 0), .lit (.int .u8 0)], .agg [.lit (.int .u8 0), .lit (.int .u8 0)], .agg [.lit (.int .u8 0), .lit (.int .u8 0)], .agg [.lit (.int .u8 0), .lit (.int .u8 0)], .agg [.lit (.int .u8 0), .lit (.int .u8 0)], .agg [.lit (.int .u8 0), .lit (.int .u8 0)], .agg [.lit (.int .u8 0), .lit (.int .u8 0)], .agg [.lit (.int .u8 0), .lit (.int .u8 0)], .agg [.lit (.int .u8 0), .lit (.int .u8 0)], .agg [.lit (.int .u8 0), .lit (.int .u8 0)], .agg [.lit (.int .u8 0), .lit (.int .u8 0)]]
/-- One of Go's own tables, pinned by name: the form's constant. -/
def laid_unicode_utf8_first : DataW Unit := Go.Pinned.utf8First

/-- 'hoppertop.TopBytes': WHATEVER THE INPUT: true; the input reads as it did. -/
def topBytesSpec : ChangeSpec := { name := "topBytes", fn := fun _ => fun
  | [d1, d2, d3] => { results := [.lit (.bool true)], args := [d1, d2, d3] }
  | _ => none }
def topBytesRow : OpenClaim := { program := "ytpeepcmdehhbgaagreatdoor", sum := "5e4e6eb8ae91dafe53cf7b1da440ecf238f1c462cfd7d5478c953f6e6294a449", func := "hopper/hoppertop.TopBytes", spec := "topBytes", inPlace := ["internal/bytealg.CountString", "internal/bytealg.IndexByteString", "internal/bytealg.IndexString", "internal/abi.NoEscape", "internal/bytealg.MakeNoZero"], unfollowed := true, recurses := true, named := ["unicode/utf8.first", "unicode/utf8.acceptRanges", "internal/bytealg.MaxLen"], plainKeys := false, apart := false, laid := [("unicode/utf8.acceptRanges", laid_unicode_utf8_acceptRanges), ("unicode/utf8.first", laid_unicode_utf8_first)] }
def TopBytesSaid : Prop := topBytesRow.holds Tryz.pinned (OpenSpec.ofChange topBytesSpec)

/-- ITS FALSE NEIGHBOUR: 'it returns false'. Refute it at one input. -/
def topBytesWrong : ChangeSpec := { name := "topBytes", fn := fun _ => fun
  | [d1, d2, d3] => { results := [.lit (.bool false)], args := [d1, d2, d3] }
  | _ => none }
def TopBytesWrongFalsely : Prop := topBytesRow.holds Tryz.pinned (OpenSpec.ofChange topBytesWrong)

/-- 'hoppertop.TopLedgers': WHATEVER THE INPUT: true; the input reads as it did. -/
def topLedgersSpec : ChangeSpec := { name := "topLedgers", fn := fun _ => fun
  | [d] => { results := [.lit (.bool true)], args := [d] }
  | _ => none }
def topLedgersRow : OpenClaim := { program := "ytpeepcmdehhbgaagreatdoor", sum := "5e4e6eb8ae91dafe53cf7b1da440ecf238f1c462cfd7d5478c953f6e6294a449", func := "hopper/hoppertop.TopLedgers", spec := "topLedgers", inPlace := ["internal/bytealg.CountString", "internal/bytealg.IndexByteString", "internal/bytealg.IndexString", "internal/abi.NoEscape", "internal/bytealg.MakeNoZero"], unfollowed := true, recurses := true, named := ["unicode/utf8.first", "unicode/utf8.acceptRanges", "internal/bytealg.MaxLen"], plainKeys := false, apart := false, laid := [("unicode/utf8.acceptRanges", laid_unicode_utf8_acceptRanges), ("unicode/utf8.first", laid_unicode_utf8_first)] }
def TopLedgersSaid : Prop := topLedgersRow.holds Tryz.pinned (OpenSpec.ofChange topLedgersSpec)

/-- ITS FALSE NEIGHBOUR: 'it returns false'. Refute it at one input. -/
def topLedgersWrong : ChangeSpec := { name := "topLedgers", fn := fun _ => fun
  | [d] => { results := [.lit (.bool false)], args := [d] }
  | _ => none }
def TopLedgersWrongFalsely : Prop := topLedgersRow.holds Tryz.pinned (OpenSpec.ofChange topLedgersWrong)

/-- 'hoppertop.TopJoined': WHATEVER THE INPUT: true; the input reads as it did. -/
def topJoinedSpec : ChangeSpec := { name := "topJoined", fn := fun _ => fun
  | [d] => { results := [.lit (.bool true)], args := [d] }
  | _ => none }
def topJoinedRow : OpenClaim := { program := "ytpeepcmdehhbgaagreatdoor", sum := "5e4e6eb8ae91dafe53cf7b1da440ecf238f1c462cfd7d5478c953f6e6294a449", func := "hopper/hoppertop.TopJoined", spec := "topJoined", inPlace := ["internal/bytealg.CountString", "internal/bytealg.IndexByteString", "internal/bytealg.IndexString", "internal/abi.NoEscape", "internal/bytealg.MakeNoZero"], unfollowed := true, recurses := true, named := ["unicode/utf8.first", "unicode/utf8.acceptRanges", "internal/bytealg.MaxLen"], plainKeys := false, apart := false, laid := [("unicode/utf8.acceptRanges", laid_unicode_utf8_acceptRanges), ("unicode/utf8.first", laid_unicode_utf8_first)] }
def TopJoinedSaid : Prop := topJoinedRow.holds Tryz.pinned (OpenSpec.ofChange topJoinedSpec)

/-- ITS FALSE NEIGHBOUR: 'it returns false'. Refute it at one input. -/
def topJoinedWrong : ChangeSpec := { name := "topJoined", fn := fun _ => fun
  | [d] => { results := [.lit (.bool false)], args := [d] }
  | _ => none }
def TopJoinedWrongFalsely : Prop := topJoinedRow.holds Tryz.pinned (OpenSpec.ofChange topJoinedWrong)

/-- 'hoppertop.TopAsks': WHATEVER THE INPUT: true; the input reads as it did. -/
def topAsksSpec : ChangeSpec := { name := "topAsks", fn := fun _ => fun
  | [d1, d2] => { results := [.lit (.bool true)], args := [d1, d2] }
  | _ => none }
def topAsksRow : OpenClaim := { program := "ytpeepcmdehhbgaagreatdoor", sum := "5e4e6eb8ae91dafe53cf7b1da440ecf238f1c462cfd7d5478c953f6e6294a449", func := "hopper/hoppertop.TopAsks", spec := "topAsks", inPlace := ["internal/bytealg.CountString", "internal/bytealg.IndexByteString", "internal/bytealg.IndexString", "internal/abi.NoEscape", "internal/bytealg.MakeNoZero"], unfollowed := true, recurses := true, named := ["unicode/utf8.first", "unicode/utf8.acceptRanges", "internal/bytealg.MaxLen"], plainKeys := false, apart := false, laid := [("unicode/utf8.acceptRanges", laid_unicode_utf8_acceptRanges), ("unicode/utf8.first", laid_unicode_utf8_first)] }
def TopAsksSaid : Prop := topAsksRow.holds Tryz.pinned (OpenSpec.ofChange topAsksSpec)

/-- ITS FALSE NEIGHBOUR: 'it returns false'. Refute it at one input. -/
def topAsksWrong : ChangeSpec := { name := "topAsks", fn := fun _ => fun
  | [d1, d2] => { results := [.lit (.bool false)], args := [d1, d2] }
  | _ => none }
def TopAsksWrongFalsely : Prop := topAsksRow.holds Tryz.pinned (OpenSpec.ofChange topAsksWrong)

/-- 'hoppertop.TopLeaders': WHATEVER THE INPUT: true; the input reads as it did. -/
def topLeadersSpec : ChangeSpec := { name := "topLeaders", fn := fun _ => fun
  | [d] => { results := [.lit (.bool true)], args := [d] }
  | _ => none }
def topLeadersRow : OpenClaim := { program := "ytpeepcmdehhbgaagreatdoor", sum := "5e4e6eb8ae91dafe53cf7b1da440ecf238f1c462cfd7d5478c953f6e6294a449", func := "hopper/hoppertop.TopLeaders", spec := "topLeaders", inPlace := ["internal/bytealg.CountString", "internal/bytealg.IndexByteString", "internal/bytealg.IndexString", "internal/abi.NoEscape", "internal/bytealg.MakeNoZero"], unfollowed := true, recurses := true, named := ["unicode/utf8.first", "unicode/utf8.acceptRanges", "internal/bytealg.MaxLen"], plainKeys := false, apart := false, laid := [("unicode/utf8.acceptRanges", laid_unicode_utf8_acceptRanges), ("unicode/utf8.first", laid_unicode_utf8_first)] }
def TopLeadersSaid : Prop := topLeadersRow.holds Tryz.pinned (OpenSpec.ofChange topLeadersSpec)

/-- ITS FALSE NEIGHBOUR: 'it returns false'. Refute it at one input. -/
def topLeadersWrong : ChangeSpec := { name := "topLeaders", fn := fun _ => fun
  | [d] => { results := [.lit (.bool false)], args := [d] }
  | _ => none }
def TopLeadersWrongFalsely : Prop := topLeadersRow.holds Tryz.pinned (OpenSpec.ofChange topLeadersWrong)

/-- 'hoppertop.TopCrashes': WHATEVER THE INPUT: true; the input reads as it did. -/
def topCrashesSpec : ChangeSpec := { name := "topCrashes", fn := fun _ => fun
  | [d1, d2] => { results := [.lit (.bool true)], args := [d1, d2] }
  | _ => none }
def topCrashesRow : OpenClaim := { program := "ytpeepcmdehhbgaagreatdoor", sum := "5e4e6eb8ae91dafe53cf7b1da440ecf238f1c462cfd7d5478c953f6e6294a449", func := "hopper/hoppertop.TopCrashes", spec := "topCrashes", inPlace := ["internal/bytealg.CountString", "internal/bytealg.IndexByteString", "internal/bytealg.IndexString", "internal/abi.NoEscape", "internal/bytealg.MakeNoZero"], unfollowed := true, recurses := true, named := ["unicode/utf8.first", "unicode/utf8.acceptRanges", "internal/bytealg.MaxLen"], plainKeys := false, apart := false, laid := [("unicode/utf8.acceptRanges", laid_unicode_utf8_acceptRanges), ("unicode/utf8.first", laid_unicode_utf8_first)] }
def TopCrashesSaid : Prop := topCrashesRow.holds Tryz.pinned (OpenSpec.ofChange topCrashesSpec)

/-- ITS FALSE NEIGHBOUR: 'it returns false'. Refute it at one input. -/
def topCrashesWrong : ChangeSpec := { name := "topCrashes", fn := fun _ => fun
  | [d1, d2] => { results := [.lit (.bool false)], args := [d1, d2] }
  | _ => none }
def TopCrashesWrongFalsely : Prop := topCrashesRow.holds Tryz.pinned (OpenSpec.ofChange topCrashesWrong)

/-- 'hoppertop.TopSame': WHATEVER THE INPUT: true; the input reads as it did. -/
def topSameSpec : ChangeSpec := { name := "topSame", fn := fun _ => fun
  | [d] => { results := [.lit (.bool true)], args := [d] }
  | _ => none }
def topSameRow : OpenClaim := { program := "ytpeepcmdehhbgaagreatdoor", sum := "5e4e6eb8ae91dafe53cf7b1da440ecf238f1c462cfd7d5478c953f6e6294a449", func := "hopper/hoppertop.TopSame", spec := "topSame", inPlace := ["internal/bytealg.CountString", "internal/bytealg.IndexByteString", "internal/bytealg.IndexString", "internal/abi.NoEscape", "internal/bytealg.MakeNoZero"], unfollowed := true, recurses := true, named := ["unicode/utf8.first", "unicode/utf8.acceptRanges", "internal/bytealg.MaxLen"], plainKeys := false, apart := false, laid := [("unicode/utf8.acceptRanges", laid_unicode_utf8_acceptRanges), ("unicode/utf8.first", laid_unicode_utf8_first)] }
def TopSameSaid : Prop := topSameRow.holds Tryz.pinned (OpenSpec.ofChange topSameSpec)

/-- ITS FALSE NEIGHBOUR: 'it returns false'. Refute it at one input. -/
def topSameWrong : ChangeSpec := { name := "topSame", fn := fun _ => fun
  | [d] => { results := [.lit (.bool false)], args := [d] }
  | _ => none }
def TopSameWrongFalsely : Prop := topSameRow.holds Tryz.pinned (OpenSpec.ofChange topSameWrong)

/-- 'hoppertop.TopDisks': WHATEVER THE INPUT: true; the input reads as it did. -/
def topDisksSpec : ChangeSpec := { name := "topDisks", fn := fun _ => fun
  | [d] => { results := [.lit (.bool true)], args := [d] }
  | _ => none }
def topDisksRow : OpenClaim := { program := "ytpeepcmdehhbgaagreatdoor", sum := "5e4e6eb8ae91dafe53cf7b1da440ecf238f1c462cfd7d5478c953f6e6294a449", func := "hopper/hoppertop.TopDisks", spec := "topDisks", inPlace := ["internal/bytealg.CountString", "internal/bytealg.IndexByteString", "internal/bytealg.IndexString", "internal/abi.NoEscape", "internal/bytealg.MakeNoZero"], unfollowed := true, recurses := true, named := ["unicode/utf8.first", "unicode/utf8.acceptRanges", "internal/bytealg.MaxLen"], plainKeys := false, apart := false, laid := [("unicode/utf8.acceptRanges", laid_unicode_utf8_acceptRanges), ("unicode/utf8.first", laid_unicode_utf8_first)] }
def TopDisksSaid : Prop := topDisksRow.holds Tryz.pinned (OpenSpec.ofChange topDisksSpec)

/-- ITS FALSE NEIGHBOUR: 'it returns false'. Refute it at one input. -/
def topDisksWrong : ChangeSpec := { name := "topDisks", fn := fun _ => fun
  | [d] => { results := [.lit (.bool false)], args := [d] }
  | _ => none }
def TopDisksWrongFalsely : Prop := topDisksRow.holds Tryz.pinned (OpenSpec.ofChange topDisksWrong)

/-- 'hoppertop.TopEmpty': WHATEVER THE INPUT: true; the input reads as it did. -/
def topEmptySpec : ChangeSpec := { name := "topEmpty", fn := fun _ => fun
  | [d] => { results := [.lit (.bool true)], args := [d] }
  | _ => none }
def topEmptyRow : OpenClaim := { program := "ytpeepcmdehhbgaagreatdoor", sum := "5e4e6eb8ae91dafe53cf7b1da440ecf238f1c462cfd7d5478c953f6e6294a449", func := "hopper/hoppertop.TopEmpty", spec := "topEmpty", inPlace := ["internal/bytealg.CountString", "internal/bytealg.IndexByteString", "internal/bytealg.IndexString", "internal/abi.NoEscape", "internal/bytealg.MakeNoZero"], unfollowed := true, recurses := true, named := ["unicode/utf8.first", "unicode/utf8.acceptRanges", "internal/bytealg.MaxLen"], plainKeys := false, apart := false, laid := [("unicode/utf8.acceptRanges", laid_unicode_utf8_acceptRanges), ("unicode/utf8.first", laid_unicode_utf8_first)] }
def TopEmptySaid : Prop := topEmptyRow.holds Tryz.pinned (OpenSpec.ofChange topEmptySpec)

/-- ITS FALSE NEIGHBOUR: 'it returns false'. Refute it at one input. -/
def topEmptyWrong : ChangeSpec := { name := "topEmpty", fn := fun _ => fun
  | [d] => { results := [.lit (.bool false)], args := [d] }
  | _ => none }
def TopEmptyWrongFalsely : Prop := topEmptyRow.holds Tryz.pinned (OpenSpec.ofChange topEmptyWrong)

/-- 'hoppertop.TopMinority': WHATEVER THE INPUT: true; the input reads as it did. -/
def topMinoritySpec : ChangeSpec := { name := "topMinority", fn := fun _ => fun
  | [d] => { results := [.lit (.bool true)], args := [d] }
  | _ => none }
def topMinorityRow : OpenClaim := { program := "ytpeepcmdehhbgaagreatdoor", sum := "5e4e6eb8ae91dafe53cf7b1da440ecf238f1c462cfd7d5478c953f6e6294a449", func := "hopper/hoppertop.TopMinority", spec := "topMinority", inPlace := ["internal/bytealg.CountString", "internal/bytealg.IndexByteString", "internal/bytealg.IndexString", "internal/abi.NoEscape", "internal/bytealg.MakeNoZero"], unfollowed := true, recurses := true, named := ["unicode/utf8.first", "unicode/utf8.acceptRanges", "internal/bytealg.MaxLen"], plainKeys := false, apart := false, laid := [("unicode/utf8.acceptRanges", laid_unicode_utf8_acceptRanges), ("unicode/utf8.first", laid_unicode_utf8_first)] }
def TopMinoritySaid : Prop := topMinorityRow.holds Tryz.pinned (OpenSpec.ofChange topMinoritySpec)

/-- ITS FALSE NEIGHBOUR: 'it returns false'. Refute it at one input. -/
def topMinorityWrong : ChangeSpec := { name := "topMinority", fn := fun _ => fun
  | [d] => { results := [.lit (.bool false)], args := [d] }
  | _ => none }
def TopMinorityWrongFalsely : Prop := topMinorityRow.holds Tryz.pinned (OpenSpec.ofChange topMinorityWrong)

/-- 'hoppertop.TopSeries': WHATEVER THE INPUT: true; the input reads as it did. -/
def topSeriesSpec : ChangeSpec := { name := "topSeries", fn := fun _ => fun
  | [d] => { results := [.lit (.bool true)], args := [d] }
  | _ => none }
def topSeriesRow : OpenClaim := { program := "ytpeepcmdehhbgaagreatdoor", sum := "5e4e6eb8ae91dafe53cf7b1da440ecf238f1c462cfd7d5478c953f6e6294a449", func := "hopper/hoppertop.TopSeries", spec := "topSeries", inPlace := ["internal/bytealg.CountString", "internal/bytealg.IndexByteString", "internal/bytealg.IndexString", "internal/abi.NoEscape", "internal/bytealg.MakeNoZero"], unfollowed := true, recurses := true, named := ["unicode/utf8.first", "unicode/utf8.acceptRanges", "internal/bytealg.MaxLen"], plainKeys := false, apart := false, laid := [("unicode/utf8.acceptRanges", laid_unicode_utf8_acceptRanges), ("unicode/utf8.first", laid_unicode_utf8_first)] }
def TopSeriesSaid : Prop := topSeriesRow.holds Tryz.pinned (OpenSpec.ofChange topSeriesSpec)

/-- ITS FALSE NEIGHBOUR: 'it returns false'. Refute it at one input. -/
def topSeriesWrong : ChangeSpec := { name := "topSeries", fn := fun _ => fun
  | [d] => { results := [.lit (.bool false)], args := [d] }
  | _ => none }
def TopSeriesWrongFalsely : Prop := topSeriesRow.holds Tryz.pinned (OpenSpec.ofChange topSeriesWrong)

/-- 'hoppertop.TopFive': WHATEVER THE INPUT: true; the input reads as it did. -/
def topFiveSpec : ChangeSpec := { name := "topFive", fn := fun _ => fun
  | [d1, d2, d3] => { results := [.lit (.bool true)], args := [d1, d2, d3] }
  | _ => none }
def topFiveRow : OpenClaim := { program := "ytpeepcmdehhbgaagreatdoor", sum := "5e4e6eb8ae91dafe53cf7b1da440ecf238f1c462cfd7d5478c953f6e6294a449", func := "hopper/hoppertop.TopFive", spec := "topFive", inPlace := ["internal/bytealg.CountString", "internal/bytealg.IndexByteString", "internal/bytealg.IndexString", "internal/abi.NoEscape", "internal/bytealg.MakeNoZero"], unfollowed := true, recurses := true, named := ["unicode/utf8.first", "unicode/utf8.acceptRanges", "internal/bytealg.MaxLen"], plainKeys := false, apart := false, laid := [("unicode/utf8.acceptRanges", laid_unicode_utf8_acceptRanges), ("unicode/utf8.first", laid_unicode_utf8_first)] }
def TopFiveSaid : Prop := topFiveRow.holds Tryz.pinned (OpenSpec.ofChange topFiveSpec)

/-- ITS FALSE NEIGHBOUR: 'it returns false'. Refute it at one input. -/
def topFiveWrong : ChangeSpec := { name := "topFive", fn := fun _ => fun
  | [d1, d2, d3] => { results := [.lit (.bool false)], args := [d1, d2, d3] }
  | _ => none }
def TopFiveWrongFalsely : Prop := topFiveRow.holds Tryz.pinned (OpenSpec.ofChange topFiveWrong)

/- THE SECOND FORM. 'bulk': how many values and letters a reading holds, each counted each time it is reached (what is shared counts as often as it is met; a slice's spare places count too). A statement '..UptoSaid' is the law's where the arguments, and the package variables that the reading takes, are together of bulk at most 1048576: NARROWER than '..Said'. Prove '..Said' where nothing that the law and all that it calls make is longer than what came in: it says more and counts as full. Else prove '..UptoSaid'. A law counts once. -/
mutual
def uptoBulk {H : Type} : DataW H → Nat
  | .lit (.string bytes) => bytes.length + 1
  | .lit _ => 1
  | .nil => 1
  | .ptr d => uptoBulk d + 1
  | .slice elems spare => uptoBulkAll elems + uptoBulkAll spare + 1
  | .agg parts => uptoBulkAll parts + 1
  | .iface _ d => uptoBulk d + 1
  | .map entries => uptoBulkEntries entries + 1
  | .held _ => 1
def uptoBulkAll {H : Type} : List (DataW H) → Nat
  | [] => 0
  | d :: r => uptoBulk d + uptoBulkAll r
def uptoBulkEntries {H : Type} : List (Lit × DataW H) → Nat
  | [] => 0
  | x :: r => uptoBulkEntry x + uptoBulkEntries r
def uptoBulkEntry {H : Type} : Lit × DataW H → Nat
  | (.string bytes, d) => bytes.length + uptoBulk d + 1
  | (_, d) => uptoBulk d + 1
 end
def uptoSmall : (H : Type) → List (DataW H) → Bool := fun _ ds => decide (uptoBulkAll ds ≤ 1048576)
def OpenSpec.upto (s : _root_.Go.ChangeSpec) : _root_.Go.OpenSpec := { _root_.Go.OpenSpec.ofChange s with cond := some uptoSmall }

/-- 'hoppertop.TopBytes', WHERE WHAT IT READS IS OF BULK AT MOST 1048576: true; the input reads as it did. -/
def topBytesUptoRow : OpenClaim := { program := "ytpeepcmdehhbgaagreatdoor", sum := "5e4e6eb8ae91dafe53cf7b1da440ecf238f1c462cfd7d5478c953f6e6294a449", func := "hopper/hoppertop.TopBytes", spec := "topBytes", inPlace := ["internal/bytealg.CountString", "internal/bytealg.IndexByteString", "internal/bytealg.IndexString", "internal/abi.NoEscape", "internal/bytealg.MakeNoZero"], unfollowed := true, recurses := true, named := ["unicode/utf8.first", "unicode/utf8.acceptRanges", "internal/bytealg.MaxLen"], plainKeys := false, apart := false, laid := [("unicode/utf8.acceptRanges", laid_unicode_utf8_acceptRanges), ("unicode/utf8.first", laid_unicode_utf8_first)], narrowed := true }
def TopBytesUptoSaid : Prop := topBytesUptoRow.holds Tryz.pinned (OpenSpec.upto topBytesSpec)

/-- 'hoppertop.TopLedgers', WHERE WHAT IT READS IS OF BULK AT MOST 1048576: true; the input reads as it did. -/
def topLedgersUptoRow : OpenClaim := { program := "ytpeepcmdehhbgaagreatdoor", sum := "5e4e6eb8ae91dafe53cf7b1da440ecf238f1c462cfd7d5478c953f6e6294a449", func := "hopper/hoppertop.TopLedgers", spec := "topLedgers", inPlace := ["internal/bytealg.CountString", "internal/bytealg.IndexByteString", "internal/bytealg.IndexString", "internal/abi.NoEscape", "internal/bytealg.MakeNoZero"], unfollowed := true, recurses := true, named := ["unicode/utf8.first", "unicode/utf8.acceptRanges", "internal/bytealg.MaxLen"], plainKeys := false, apart := false, laid := [("unicode/utf8.acceptRanges", laid_unicode_utf8_acceptRanges), ("unicode/utf8.first", laid_unicode_utf8_first)], narrowed := true }
def TopLedgersUptoSaid : Prop := topLedgersUptoRow.holds Tryz.pinned (OpenSpec.upto topLedgersSpec)

/-- 'hoppertop.TopJoined', WHERE WHAT IT READS IS OF BULK AT MOST 1048576: true; the input reads as it did. -/
def topJoinedUptoRow : OpenClaim := { program := "ytpeepcmdehhbgaagreatdoor", sum := "5e4e6eb8ae91dafe53cf7b1da440ecf238f1c462cfd7d5478c953f6e6294a449", func := "hopper/hoppertop.TopJoined", spec := "topJoined", inPlace := ["internal/bytealg.CountString", "internal/bytealg.IndexByteString", "internal/bytealg.IndexString", "internal/abi.NoEscape", "internal/bytealg.MakeNoZero"], unfollowed := true, recurses := true, named := ["unicode/utf8.first", "unicode/utf8.acceptRanges", "internal/bytealg.MaxLen"], plainKeys := false, apart := false, laid := [("unicode/utf8.acceptRanges", laid_unicode_utf8_acceptRanges), ("unicode/utf8.first", laid_unicode_utf8_first)], narrowed := true }
def TopJoinedUptoSaid : Prop := topJoinedUptoRow.holds Tryz.pinned (OpenSpec.upto topJoinedSpec)

/-- 'hoppertop.TopAsks', WHERE WHAT IT READS IS OF BULK AT MOST 1048576: true; the input reads as it did. -/
def topAsksUptoRow : OpenClaim := { program := "ytpeepcmdehhbgaagreatdoor", sum := "5e4e6eb8ae91dafe53cf7b1da440ecf238f1c462cfd7d5478c953f6e6294a449", func := "hopper/hoppertop.TopAsks", spec := "topAsks", inPlace := ["internal/bytealg.CountString", "internal/bytealg.IndexByteString", "internal/bytealg.IndexString", "internal/abi.NoEscape", "internal/bytealg.MakeNoZero"], unfollowed := true, recurses := true, named := ["unicode/utf8.first", "unicode/utf8.acceptRanges", "internal/bytealg.MaxLen"], plainKeys := false, apart := false, laid := [("unicode/utf8.acceptRanges", laid_unicode_utf8_acceptRanges), ("unicode/utf8.first", laid_unicode_utf8_first)], narrowed := true }
def TopAsksUptoSaid : Prop := topAsksUptoRow.holds Tryz.pinned (OpenSpec.upto topAsksSpec)

/-- 'hoppertop.TopLeaders', WHERE WHAT IT READS IS OF BULK AT MOST 1048576: true; the input reads as it did. -/
def topLeadersUptoRow : OpenClaim := { program := "ytpeepcmdehhbgaagreatdoor", sum := "5e4e6eb8ae91dafe53cf7b1da440ecf238f1c462cfd7d5478c953f6e6294a449", func := "hopper/hoppertop.TopLeaders", spec := "topLeaders", inPlace := ["internal/bytealg.CountString", "internal/bytealg.IndexByteString", "internal/bytealg.IndexString", "internal/abi.NoEscape", "internal/bytealg.MakeNoZero"], unfollowed := true, recurses := true, named := ["unicode/utf8.first", "unicode/utf8.acceptRanges", "internal/bytealg.MaxLen"], plainKeys := false, apart := false, laid := [("unicode/utf8.acceptRanges", laid_unicode_utf8_acceptRanges), ("unicode/utf8.first", laid_unicode_utf8_first)], narrowed := true }
def TopLeadersUptoSaid : Prop := topLeadersUptoRow.holds Tryz.pinned (OpenSpec.upto topLeadersSpec)

/-- 'hoppertop.TopCrashes', WHERE WHAT IT READS IS OF BULK AT MOST 1048576: true; the input reads as it did. -/
def topCrashesUptoRow : OpenClaim := { program := "ytpeepcmdehhbgaagreatdoor", sum := "5e4e6eb8ae91dafe53cf7b1da440ecf238f1c462cfd7d5478c953f6e6294a449", func := "hopper/hoppertop.TopCrashes", spec := "topCrashes", inPlace := ["internal/bytealg.CountString", "internal/bytealg.IndexByteString", "internal/bytealg.IndexString", "internal/abi.NoEscape", "internal/bytealg.MakeNoZero"], unfollowed := true, recurses := true, named := ["unicode/utf8.first", "unicode/utf8.acceptRanges", "internal/bytealg.MaxLen"], plainKeys := false, apart := false, laid := [("unicode/utf8.acceptRanges", laid_unicode_utf8_acceptRanges), ("unicode/utf8.first", laid_unicode_utf8_first)], narrowed := true }
def TopCrashesUptoSaid : Prop := topCrashesUptoRow.holds Tryz.pinned (OpenSpec.upto topCrashesSpec)

/-- 'hoppertop.TopSame', WHERE WHAT IT READS IS OF BULK AT MOST 1048576: true; the input reads as it did. -/
def topSameUptoRow : OpenClaim := { program := "ytpeepcmdehhbgaagreatdoor", sum := "5e4e6eb8ae91dafe53cf7b1da440ecf238f1c462cfd7d5478c953f6e6294a449", func := "hopper/hoppertop.TopSame", spec := "topSame", inPlace := ["internal/bytealg.CountString", "internal/bytealg.IndexByteString", "internal/bytealg.IndexString", "internal/abi.NoEscape", "internal/bytealg.MakeNoZero"], unfollowed := true, recurses := true, named := ["unicode/utf8.first", "unicode/utf8.acceptRanges", "internal/bytealg.MaxLen"], plainKeys := false, apart := false, laid := [("unicode/utf8.acceptRanges", laid_unicode_utf8_acceptRanges), ("unicode/utf8.first", laid_unicode_utf8_first)], narrowed := true }
def TopSameUptoSaid : Prop := topSameUptoRow.holds Tryz.pinned (OpenSpec.upto topSameSpec)

/-- 'hoppertop.TopDisks', WHERE WHAT IT READS IS OF BULK AT MOST 1048576: true; the input reads as it did. -/
def topDisksUptoRow : OpenClaim := { program := "ytpeepcmdehhbgaagreatdoor", sum := "5e4e6eb8ae91dafe53cf7b1da440ecf238f1c462cfd7d5478c953f6e6294a449", func := "hopper/hoppertop.TopDisks", spec := "topDisks", inPlace := ["internal/bytealg.CountString", "internal/bytealg.IndexByteString", "internal/bytealg.IndexString", "internal/abi.NoEscape", "internal/bytealg.MakeNoZero"], unfollowed := true, recurses := true, named := ["unicode/utf8.first", "unicode/utf8.acceptRanges", "internal/bytealg.MaxLen"], plainKeys := false, apart := false, laid := [("unicode/utf8.acceptRanges", laid_unicode_utf8_acceptRanges), ("unicode/utf8.first", laid_unicode_utf8_first)], narrowed := true }
def TopDisksUptoSaid : Prop := topDisksUptoRow.holds Tryz.pinned (OpenSpec.upto topDisksSpec)

/-- 'hoppertop.TopEmpty', WHERE WHAT IT READS IS OF BULK AT MOST 1048576: true; the input reads as it did. -/
def topEmptyUptoRow : OpenClaim := { program := "ytpeepcmdehhbgaagreatdoor", sum := "5e4e6eb8ae91dafe53cf7b1da440ecf238f1c462cfd7d5478c953f6e6294a449", func := "hopper/hoppertop.TopEmpty", spec := "topEmpty", inPlace := ["internal/bytealg.CountString", "internal/bytealg.IndexByteString", "internal/bytealg.IndexString", "internal/abi.NoEscape", "internal/bytealg.MakeNoZero"], unfollowed := true, recurses := true, named := ["unicode/utf8.first", "unicode/utf8.acceptRanges", "internal/bytealg.MaxLen"], plainKeys := false, apart := false, laid := [("unicode/utf8.acceptRanges", laid_unicode_utf8_acceptRanges), ("unicode/utf8.first", laid_unicode_utf8_first)], narrowed := true }
def TopEmptyUptoSaid : Prop := topEmptyUptoRow.holds Tryz.pinned (OpenSpec.upto topEmptySpec)

/-- 'hoppertop.TopMinority', WHERE WHAT IT READS IS OF BULK AT MOST 1048576: true; the input reads as it did. -/
def topMinorityUptoRow : OpenClaim := { program := "ytpeepcmdehhbgaagreatdoor", sum := "5e4e6eb8ae91dafe53cf7b1da440ecf238f1c462cfd7d5478c953f6e6294a449", func := "hopper/hoppertop.TopMinority", spec := "topMinority", inPlace := ["internal/bytealg.CountString", "internal/bytealg.IndexByteString", "internal/bytealg.IndexString", "internal/abi.NoEscape", "internal/bytealg.MakeNoZero"], unfollowed := true, recurses := true, named := ["unicode/utf8.first", "unicode/utf8.acceptRanges", "internal/bytealg.MaxLen"], plainKeys := false, apart := false, laid := [("unicode/utf8.acceptRanges", laid_unicode_utf8_acceptRanges), ("unicode/utf8.first", laid_unicode_utf8_first)], narrowed := true }
def TopMinorityUptoSaid : Prop := topMinorityUptoRow.holds Tryz.pinned (OpenSpec.upto topMinoritySpec)

/-- 'hoppertop.TopSeries', WHERE WHAT IT READS IS OF BULK AT MOST 1048576: true; the input reads as it did. -/
def topSeriesUptoRow : OpenClaim := { program := "ytpeepcmdehhbgaagreatdoor", sum := "5e4e6eb8ae91dafe53cf7b1da440ecf238f1c462cfd7d5478c953f6e6294a449", func := "hopper/hoppertop.TopSeries", spec := "topSeries", inPlace := ["internal/bytealg.CountString", "internal/bytealg.IndexByteString", "internal/bytealg.IndexString", "internal/abi.NoEscape", "internal/bytealg.MakeNoZero"], unfollowed := true, recurses := true, named := ["unicode/utf8.first", "unicode/utf8.acceptRanges", "internal/bytealg.MaxLen"], plainKeys := false, apart := false, laid := [("unicode/utf8.acceptRanges", laid_unicode_utf8_acceptRanges), ("unicode/utf8.first", laid_unicode_utf8_first)], narrowed := true }
def TopSeriesUptoSaid : Prop := topSeriesUptoRow.holds Tryz.pinned (OpenSpec.upto topSeriesSpec)

/-- 'hoppertop.TopFive', WHERE WHAT IT READS IS OF BULK AT MOST 1048576: true; the input reads as it did. -/
def topFiveUptoRow : OpenClaim := { program := "ytpeepcmdehhbgaagreatdoor", sum := "5e4e6eb8ae91dafe53cf7b1da440ecf238f1c462cfd7d5478c953f6e6294a449", func := "hopper/hoppertop.TopFive", spec := "topFive", inPlace := ["internal/bytealg.CountString", "internal/bytealg.IndexByteString", "internal/bytealg.IndexString", "internal/abi.NoEscape", "internal/bytealg.MakeNoZero"], unfollowed := true, recurses := true, named := ["unicode/utf8.first", "unicode/utf8.acceptRanges", "internal/bytealg.MaxLen"], plainKeys := false, apart := false, laid := [("unicode/utf8.acceptRanges", laid_unicode_utf8_acceptRanges), ("unicode/utf8.first", laid_unicode_utf8_first)], narrowed := true }
def TopFiveUptoSaid : Prop := topFiveUptoRow.holds Tryz.pinned (OpenSpec.upto topFiveSpec)

end Rows
end Go.Proofs.YtpeepcmdehhbgaaGreatDoor
