/-
  NARROWER THAN 'FOR EVERY INPUT', by the rows' own cells (each row's printed sentence says how): LabelNumbers: laid · LabelTells: laid · LabelBack: laid · LabelShards: laid · LabelRefuses: laid.
  DERIVED. THE GIVEN ROWS OF THIS SEAT. 5 by the template 'for every input the law returns true; each argument reads behind the call as it read before'; 0 by the template 'total and deterministic' (their statements: YthkkfdnechmddaaDoorTotals.lean).
  GIVEN WITH THE SEED: the statements are not yours to turn. If you find one false, say at which input.
  Laid BY PROGRAM, IN A SANDBOX (cutbox-rows.mjs): the forced cells as the released guide's own fill.sh prints them over the translation 9c048b3d6811049f… (all of the seat's roots in one cut). By AI agents, Wed Nov 11 2026. No macro, syntax, notation, axiom, sorry.
-/
import Derived.Test.YthkkfdnechmddaaDoorChecked
import GoSem.PinnedTables
import GoSem.Claim
import GoSem.ClaimJoined
import GoSem.ClaimMapViews
import Derived.JoinedTies
import Derived.KernelRfl
namespace Go.Proofs.YthkkfdnechmddaaDoor
/- THE CELL 'sum', in the pinned program and in every row, IS THE sha256 OF THE DUMP (.gsa) THAT YthkkfdnechmddaaDoorProg.lean LOADS. Nothing in Lean hashes anything: it is a label: what it is worth is what the hold of that sum in a sandbox is worth. -/
noncomputable def Tryd.pinned : Pinned := { name := "ythkkfdnechmddaadoor", sum := "9c048b3d6811049f1fe57ead2ed55914cd37c591633a41aae17ea3a3e9628283", checked := Tryd.checked }
namespace Rows
def none {H : Type} : Left H := { results := [], args := [] }

/- WHAT THE LISTED PACKAGE-LEVEL VARIABLES READ AS WHEN THE CALL BEGINS. Each datum BY PROGRAM (the guide's laid-datum.mjs) off the statement by which the dump's own 'gosem.cut.vars' lays the variable. In a bare row this is a premise. The card (YthkkfdnechmddaaDoorCards.lean) ties it to the program's text. -/
def laid_unicode_utf8_acceptRanges {H : Type} : DataW H := .agg [.agg [.lit (.int .u8 128), .lit (.int .u8 191)], .agg [.lit (.int .u8 160), .lit (.int .u8 191)], .agg [.lit (.int .u8 128), .lit (.int .u8 159)], .agg [.lit (.int .u8 144), .lit (.int .u8 191)], .agg [.lit (.int .u8 128), .lit (.int .u8 143)], .agg [.lit (.int .u8 0), .lit (.int .u8 0)], .agg [.lit (.int .u8 0), .lit (.int .u8 0)], .agg [.lit (.int .u8 0), .lit (.int .u8 0)], .agg [.lit (.int .u8 0), .lit (.int .u8 0)], .agg [.lit (.int .u8 0), .lit (.int .u8 0)], .agg [.lit (.int .u8 0), .lit (.int .u8 0)], .agg [.lit (.int .u8 0), .lit (.int .u8 0)], .agg [.lit (.int .u8 0), .lit (.int .u8 0)], .agg [.lit (.int .u8 0), .lit (.int .u8 0)], .agg [.lit (.int .u8 0), .lit (.int .u8 0)], .agg [.lit (.int .u8 0), .lit (.int .u8 0)]]
/-- One of Go's own tables, pinned by name: the form's constant. -/
def laid_unicode_utf8_first : DataW Unit := Go.Pinned.utf8First

/-- 'hopperlaw3.LabelNumbers': WHATEVER THE INPUT: true; the input reads as it did. -/
def labelNumbersSpec : ChangeSpec := { name := "labelNumbers", fn := fun _ => fun
  | [] => { results := [.lit (.bool true)], args := [] }
  | _ => none }
def labelNumbersRow : OpenClaim := { program := "ythkkfdnechmddaadoor", sum := "9c048b3d6811049f1fe57ead2ed55914cd37c591633a41aae17ea3a3e9628283", func := "hopper/hopperlaw3.LabelNumbers", spec := "labelNumbers", inPlace := ["internal/abi.NoEscape", "internal/bytealg.MakeNoZero", "internal/bytealg.CountString", "internal/bytealg.IndexByteString", "internal/bytealg.IndexString"], unfollowed := true, recurses := true, named := ["unicode/utf8.first", "unicode/utf8.acceptRanges", "internal/bytealg.MaxLen"], apart := false, laid := [("unicode/utf8.acceptRanges", laid_unicode_utf8_acceptRanges), ("unicode/utf8.first", laid_unicode_utf8_first)] }
def LabelNumbersSaid : Prop := labelNumbersRow.holds Tryd.pinned (OpenSpec.ofChange labelNumbersSpec)

/-- ITS FALSE NEIGHBOUR: 'it returns false'. Refute it at one input. -/
def labelNumbersWrong : ChangeSpec := { name := "labelNumbers", fn := fun _ => fun
  | [] => { results := [.lit (.bool false)], args := [] }
  | _ => none }
def LabelNumbersWrongFalsely : Prop := labelNumbersRow.holds Tryd.pinned (OpenSpec.ofChange labelNumbersWrong)

/-- 'hopperlaw3.LabelTells': WHATEVER THE INPUT: true; the input reads as it did. -/
def labelTellsSpec : ChangeSpec := { name := "labelTells", fn := fun _ => fun
  | [d1, d2, d3, d4, d5] => { results := [.lit (.bool true)], args := [d1, d2, d3, d4, d5] }
  | _ => none }
def labelTellsRow : OpenClaim := { program := "ythkkfdnechmddaadoor", sum := "9c048b3d6811049f1fe57ead2ed55914cd37c591633a41aae17ea3a3e9628283", func := "hopper/hopperlaw3.LabelTells", spec := "labelTells", inPlace := ["internal/abi.NoEscape", "internal/bytealg.MakeNoZero", "internal/bytealg.CountString", "internal/bytealg.IndexByteString", "internal/bytealg.IndexString"], unfollowed := true, recurses := true, named := ["unicode/utf8.first", "unicode/utf8.acceptRanges", "internal/bytealg.MaxLen"], apart := false, laid := [("unicode/utf8.acceptRanges", laid_unicode_utf8_acceptRanges), ("unicode/utf8.first", laid_unicode_utf8_first)] }
def LabelTellsSaid : Prop := labelTellsRow.holds Tryd.pinned (OpenSpec.ofChange labelTellsSpec)

/-- ITS FALSE NEIGHBOUR: 'it returns false'. Refute it at one input. -/
def labelTellsWrong : ChangeSpec := { name := "labelTells", fn := fun _ => fun
  | [d1, d2, d3, d4, d5] => { results := [.lit (.bool false)], args := [d1, d2, d3, d4, d5] }
  | _ => none }
def LabelTellsWrongFalsely : Prop := labelTellsRow.holds Tryd.pinned (OpenSpec.ofChange labelTellsWrong)

/-- 'hopperlaw3.LabelBack': WHATEVER THE INPUT: true; the input reads as it did. -/
def labelBackSpec : ChangeSpec := { name := "labelBack", fn := fun _ => fun
  | [d1, d2] => { results := [.lit (.bool true)], args := [d1, d2] }
  | _ => none }
def labelBackRow : OpenClaim := { program := "ythkkfdnechmddaadoor", sum := "9c048b3d6811049f1fe57ead2ed55914cd37c591633a41aae17ea3a3e9628283", func := "hopper/hopperlaw3.LabelBack", spec := "labelBack", inPlace := ["internal/abi.NoEscape", "internal/bytealg.MakeNoZero", "internal/bytealg.CountString", "internal/bytealg.IndexByteString", "internal/bytealg.IndexString"], unfollowed := true, recurses := true, named := ["unicode/utf8.first", "unicode/utf8.acceptRanges", "internal/bytealg.MaxLen"], apart := false, laid := [("unicode/utf8.acceptRanges", laid_unicode_utf8_acceptRanges), ("unicode/utf8.first", laid_unicode_utf8_first)] }
def LabelBackSaid : Prop := labelBackRow.holds Tryd.pinned (OpenSpec.ofChange labelBackSpec)

/-- ITS FALSE NEIGHBOUR: 'it returns false'. Refute it at one input. -/
def labelBackWrong : ChangeSpec := { name := "labelBack", fn := fun _ => fun
  | [d1, d2] => { results := [.lit (.bool false)], args := [d1, d2] }
  | _ => none }
def LabelBackWrongFalsely : Prop := labelBackRow.holds Tryd.pinned (OpenSpec.ofChange labelBackWrong)

/-- 'hopperlaw3.LabelShards': WHATEVER THE INPUT: true; the input reads as it did. -/
def labelShardsSpec : ChangeSpec := { name := "labelShards", fn := fun _ => fun
  | [d1, d2] => { results := [.lit (.bool true)], args := [d1, d2] }
  | _ => none }
def labelShardsRow : OpenClaim := { program := "ythkkfdnechmddaadoor", sum := "9c048b3d6811049f1fe57ead2ed55914cd37c591633a41aae17ea3a3e9628283", func := "hopper/hopperlaw3.LabelShards", spec := "labelShards", inPlace := ["internal/abi.NoEscape", "internal/bytealg.MakeNoZero", "internal/bytealg.CountString", "internal/bytealg.IndexByteString", "internal/bytealg.IndexString"], unfollowed := true, recurses := true, named := ["unicode/utf8.first", "unicode/utf8.acceptRanges", "internal/bytealg.MaxLen"], apart := false, laid := [("unicode/utf8.acceptRanges", laid_unicode_utf8_acceptRanges), ("unicode/utf8.first", laid_unicode_utf8_first)] }
def LabelShardsSaid : Prop := labelShardsRow.holds Tryd.pinned (OpenSpec.ofChange labelShardsSpec)

/-- ITS FALSE NEIGHBOUR: 'it returns false'. Refute it at one input. -/
def labelShardsWrong : ChangeSpec := { name := "labelShards", fn := fun _ => fun
  | [d1, d2] => { results := [.lit (.bool false)], args := [d1, d2] }
  | _ => none }
def LabelShardsWrongFalsely : Prop := labelShardsRow.holds Tryd.pinned (OpenSpec.ofChange labelShardsWrong)

/-- 'hopperlaw3.LabelRefuses': WHATEVER THE INPUT: true; the input reads as it did. -/
def labelRefusesSpec : ChangeSpec := { name := "labelRefuses", fn := fun _ => fun
  | [d1, d2] => { results := [.lit (.bool true)], args := [d1, d2] }
  | _ => none }
def labelRefusesRow : OpenClaim := { program := "ythkkfdnechmddaadoor", sum := "9c048b3d6811049f1fe57ead2ed55914cd37c591633a41aae17ea3a3e9628283", func := "hopper/hopperlaw3.LabelRefuses", spec := "labelRefuses", inPlace := ["internal/abi.NoEscape", "internal/bytealg.MakeNoZero", "internal/bytealg.CountString", "internal/bytealg.IndexByteString", "internal/bytealg.IndexString"], unfollowed := true, recurses := true, named := ["unicode/utf8.first", "unicode/utf8.acceptRanges", "internal/bytealg.MaxLen"], apart := false, laid := [("unicode/utf8.acceptRanges", laid_unicode_utf8_acceptRanges), ("unicode/utf8.first", laid_unicode_utf8_first)] }
def LabelRefusesSaid : Prop := labelRefusesRow.holds Tryd.pinned (OpenSpec.ofChange labelRefusesSpec)

/-- ITS FALSE NEIGHBOUR: 'it returns false'. Refute it at one input. -/
def labelRefusesWrong : ChangeSpec := { name := "labelRefuses", fn := fun _ => fun
  | [d1, d2] => { results := [.lit (.bool false)], args := [d1, d2] }
  | _ => none }
def LabelRefusesWrongFalsely : Prop := labelRefusesRow.holds Tryd.pinned (OpenSpec.ofChange labelRefusesWrong)

/- THE SECOND FORM. 'bulk': how many values and letters a reading holds, each counted each time it is reached (what is shared counts as often as it is met; a slice's spare places count too). A statement '..UptoSaid' is the law's where the arguments, and the package variables that the reading takes, are together of bulk at most 1048576: NARROWER than '..Said'. Prove '..Said' where nothing that the law and all that it calls make is longer than what came in: it says more and counts as full. Else prove '..UptoSaid'. A law counts once. -/
mutual
def uptoBulk {H : Type} : DataW H → Nat
  | .lit (.string bytes) => bytes.length + 1
  | .lit _ => 1
  | .nil => 1
  | .ptr d => uptoBulk d + 1
  | .slice elems spare => uptoBulkAll elems + uptoBulkAll spare + 1
  | .agg parts => uptoBulkAll parts + 1
  | .iface _ d => uptoBulk d + 1
  | .map entries => uptoBulkEntries entries + 1
  | .held _ => 1
def uptoBulkAll {H : Type} : List (DataW H) → Nat
  | [] => 0
  | d :: r => uptoBulk d + uptoBulkAll r
def uptoBulkEntries {H : Type} : List (Lit × DataW H) → Nat
  | [] => 0
  | x :: r => uptoBulkEntry x + uptoBulkEntries r
def uptoBulkEntry {H : Type} : Lit × DataW H → Nat
  | (.string bytes, d) => bytes.length + uptoBulk d + 1
  | (_, d) => uptoBulk d + 1
 end
def uptoSmall : (H : Type) → List (DataW H) → Bool := fun _ ds => decide (uptoBulkAll ds ≤ 1048576)
def OpenSpec.upto (s : _root_.Go.ChangeSpec) : _root_.Go.OpenSpec := { _root_.Go.OpenSpec.ofChange s with cond := some uptoSmall }

/-- 'hopperlaw3.LabelNumbers', WHERE WHAT IT READS IS OF BULK AT MOST 1048576: true; the input reads as it did. -/
def labelNumbersUptoRow : OpenClaim := { program := "ythkkfdnechmddaadoor", sum := "9c048b3d6811049f1fe57ead2ed55914cd37c591633a41aae17ea3a3e9628283", func := "hopper/hopperlaw3.LabelNumbers", spec := "labelNumbers", inPlace := ["internal/abi.NoEscape", "internal/bytealg.MakeNoZero", "internal/bytealg.CountString", "internal/bytealg.IndexByteString", "internal/bytealg.IndexString"], unfollowed := true, recurses := true, named := ["unicode/utf8.first", "unicode/utf8.acceptRanges", "internal/bytealg.MaxLen"], apart := false, laid := [("unicode/utf8.acceptRanges", laid_unicode_utf8_acceptRanges), ("unicode/utf8.first", laid_unicode_utf8_first)], narrowed := true }
def LabelNumbersUptoSaid : Prop := labelNumbersUptoRow.holds Tryd.pinned (OpenSpec.upto labelNumbersSpec)

/-- 'hopperlaw3.LabelTells', WHERE WHAT IT READS IS OF BULK AT MOST 1048576: true; the input reads as it did. -/
def labelTellsUptoRow : OpenClaim := { program := "ythkkfdnechmddaadoor", sum := "9c048b3d6811049f1fe57ead2ed55914cd37c591633a41aae17ea3a3e9628283", func := "hopper/hopperlaw3.LabelTells", spec := "labelTells", inPlace := ["internal/abi.NoEscape", "internal/bytealg.MakeNoZero", "internal/bytealg.CountString", "internal/bytealg.IndexByteString", "internal/bytealg.IndexString"], unfollowed := true, recurses := true, named := ["unicode/utf8.first", "unicode/utf8.acceptRanges", "internal/bytealg.MaxLen"], apart := false, laid := [("unicode/utf8.acceptRanges", laid_unicode_utf8_acceptRanges), ("unicode/utf8.first", laid_unicode_utf8_first)], narrowed := true }
def LabelTellsUptoSaid : Prop := labelTellsUptoRow.holds Tryd.pinned (OpenSpec.upto labelTellsSpec)

/-- 'hopperlaw3.LabelBack', WHERE WHAT IT READS IS OF BULK AT MOST 1048576: true; the input reads as it did. -/
def labelBackUptoRow : OpenClaim := { program := "ythkkfdnechmddaadoor", sum := "9c048b3d6811049f1fe57ead2ed55914cd37c591633a41aae17ea3a3e9628283", func := "hopper/hopperlaw3.LabelBack", spec := "labelBack", inPlace := ["internal/abi.NoEscape", "internal/bytealg.MakeNoZero", "internal/bytealg.CountString", "internal/bytealg.IndexByteString", "internal/bytealg.IndexString"], unfollowed := true, recurses := true, named := ["unicode/utf8.first", "unicode/utf8.acceptRanges", "internal/bytealg.MaxLen"], apart := false, laid := [("unicode/utf8.acceptRanges", laid_unicode_utf8_acceptRanges), ("unicode/utf8.first", laid_unicode_utf8_first)], narrowed := true }
def LabelBackUptoSaid : Prop := labelBackUptoRow.holds Tryd.pinned (OpenSpec.upto labelBackSpec)

/-- 'hopperlaw3.LabelShards', WHERE WHAT IT READS IS OF BULK AT MOST 1048576: true; the input reads as it did. -/
def labelShardsUptoRow : OpenClaim := { program := "ythkkfdnechmddaadoor", sum := "9c048b3d6811049f1fe57ead2ed55914cd37c591633a41aae17ea3a3e9628283", func := "hopper/hopperlaw3.LabelShards", spec := "labelShards", inPlace := ["internal/abi.NoEscape", "internal/bytealg.MakeNoZero", "internal/bytealg.CountString", "internal/bytealg.IndexByteString", "internal/bytealg.IndexString"], unfollowed := true, recurses := true, named := ["unicode/utf8.first", "unicode/utf8.acceptRanges", "internal/bytealg.MaxLen"], apart := false, laid := [("unicode/utf8.acceptRanges", laid_unicode_utf8_acceptRanges), ("unicode/utf8.first", laid_unicode_utf8_first)], narrowed := true }
def LabelShardsUptoSaid : Prop := labelShardsUptoRow.holds Tryd.pinned (OpenSpec.upto labelShardsSpec)

/-- 'hopperlaw3.LabelRefuses', WHERE WHAT IT READS IS OF BULK AT MOST 1048576: true; the input reads as it did. -/
def labelRefusesUptoRow : OpenClaim := { program := "ythkkfdnechmddaadoor", sum := "9c048b3d6811049f1fe57ead2ed55914cd37c591633a41aae17ea3a3e9628283", func := "hopper/hopperlaw3.LabelRefuses", spec := "labelRefuses", inPlace := ["internal/abi.NoEscape", "internal/bytealg.MakeNoZero", "internal/bytealg.CountString", "internal/bytealg.IndexByteString", "internal/bytealg.IndexString"], unfollowed := true, recurses := true, named := ["unicode/utf8.first", "unicode/utf8.acceptRanges", "internal/bytealg.MaxLen"], apart := false, laid := [("unicode/utf8.acceptRanges", laid_unicode_utf8_acceptRanges), ("unicode/utf8.first", laid_unicode_utf8_first)], narrowed := true }
def LabelRefusesUptoSaid : Prop := labelRefusesUptoRow.holds Tryd.pinned (OpenSpec.upto labelRefusesSpec)

end Rows
end Go.Proofs.YthkkfdnechmddaaDoor
