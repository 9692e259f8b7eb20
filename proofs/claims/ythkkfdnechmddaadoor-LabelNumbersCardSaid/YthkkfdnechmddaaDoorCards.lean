/-
  DERIVED. GIVEN WITH THE SEED: THE CARDS: each row of YthkkfdnechmddaaDoorRows.lean that lists a variable, with what it lists TIED to the program's text (the seventh form; the later family's looks); each row that meets fmt, with fmt's text TOLD by the authors' own Lean function (tested against real Go, not proved from fmt's source: count such statements apart). THE CARD IS WHAT COUNTS. Prove the row's statement (the work); the ties are given (YthkkfdnechmddaaDoorTie.lean); close each card by the builder's one call (the guide's Derived/Test/ToyasCard.lean, 'card_holds'). Laid BY PROGRAM, IN A SANDBOX (cutbox-door.mjs). By AI agents, Wed Nov 11 2026. No macro, syntax, notation, axiom, sorry.
-/
import Derived.Test.YthkkfdnechmddaaDoorRows
import GoSem.ClaimSeven
namespace Go.Proofs.YthkkfdnechmddaaDoor
namespace Rows

/-- THE TIED CARD OF 'hopperlaw3.LabelNumbers'. -/
def labelNumbersCard : Claim7 := { stood := { row := labelNumbersRow, standIns := [], harness := (true, "a6e4e16c0684f718006128e02383f56adcd7a0402393691cef311e22730daaab"), looks := false }, kinds := [], alts := [], laidByText := true, laidKinds := [.data, .pinned], laidTests := true, laidLooks := .later }
def LabelNumbersCardSaid : Prop := Claim7.holds Tryd.pinned (.plain (OpenSpec.ofChange labelNumbersSpec)) labelNumbersCard

/-- THE TIED CARD OF 'hopperlaw3.LabelTells'. -/
def labelTellsCard : Claim7 := { stood := { row := labelTellsRow, standIns := [], harness := (true, "a6e4e16c0684f718006128e02383f56adcd7a0402393691cef311e22730daaab"), looks := false }, kinds := [], alts := [], laidByText := true, laidKinds := [.data, .pinned], laidTests := true, laidLooks := .later }
def LabelTellsCardSaid : Prop := Claim7.holds Tryd.pinned (.plain (OpenSpec.ofChange labelTellsSpec)) labelTellsCard

/-- THE TIED CARD OF 'hopperlaw3.LabelBack'. -/
def labelBackCard : Claim7 := { stood := { row := labelBackRow, standIns := [], harness := (true, "a6e4e16c0684f718006128e02383f56adcd7a0402393691cef311e22730daaab"), looks := false }, kinds := [], alts := [], laidByText := true, laidKinds := [.data, .pinned], laidTests := true, laidLooks := .later }
def LabelBackCardSaid : Prop := Claim7.holds Tryd.pinned (.plain (OpenSpec.ofChange labelBackSpec)) labelBackCard

/-- THE TIED CARD OF 'hopperlaw3.LabelShards'. -/
def labelShardsCard : Claim7 := { stood := { row := labelShardsRow, standIns := [], harness := (true, "a6e4e16c0684f718006128e02383f56adcd7a0402393691cef311e22730daaab"), looks := false }, kinds := [], alts := [], laidByText := true, laidKinds := [.data, .pinned], laidTests := true, laidLooks := .later }
def LabelShardsCardSaid : Prop := Claim7.holds Tryd.pinned (.plain (OpenSpec.ofChange labelShardsSpec)) labelShardsCard

/-- THE TIED CARD OF 'hopperlaw3.LabelRefuses'. -/
def labelRefusesCard : Claim7 := { stood := { row := labelRefusesRow, standIns := [], harness := (true, "a6e4e16c0684f718006128e02383f56adcd7a0402393691cef311e22730daaab"), looks := false }, kinds := [], alts := [], laidByText := true, laidKinds := [.data, .pinned], laidTests := true, laidLooks := .later }
def LabelRefusesCardSaid : Prop := Claim7.holds Tryd.pinned (.plain (OpenSpec.ofChange labelRefusesSpec)) labelRefusesCard

/-- THE SECOND FORM's CARD OF 'hopperlaw3.LabelNumbers'. -/
def labelNumbersUptoCard : Claim7 := { stood := { row := labelNumbersUptoRow, standIns := [], harness := (true, "a6e4e16c0684f718006128e02383f56adcd7a0402393691cef311e22730daaab"), looks := false }, kinds := [], alts := [], laidByText := true, laidKinds := [.data, .pinned], laidTests := true, laidLooks := .later }
def LabelNumbersUptoCardSaid : Prop := Claim7.holds Tryd.pinned (.plain (OpenSpec.upto labelNumbersSpec)) labelNumbersUptoCard

/-- THE SECOND FORM's CARD OF 'hopperlaw3.LabelTells'. -/
def labelTellsUptoCard : Claim7 := { stood := { row := labelTellsUptoRow, standIns := [], harness := (true, "a6e4e16c0684f718006128e02383f56adcd7a0402393691cef311e22730daaab"), looks := false }, kinds := [], alts := [], laidByText := true, laidKinds := [.data, .pinned], laidTests := true, laidLooks := .later }
def LabelTellsUptoCardSaid : Prop := Claim7.holds Tryd.pinned (.plain (OpenSpec.upto labelTellsSpec)) labelTellsUptoCard

/-- THE SECOND FORM's CARD OF 'hopperlaw3.LabelBack'. -/
def labelBackUptoCard : Claim7 := { stood := { row := labelBackUptoRow, standIns := [], harness := (true, "a6e4e16c0684f718006128e02383f56adcd7a0402393691cef311e22730daaab"), looks := false }, kinds := [], alts := [], laidByText := true, laidKinds := [.data, .pinned], laidTests := true, laidLooks := .later }
def LabelBackUptoCardSaid : Prop := Claim7.holds Tryd.pinned (.plain (OpenSpec.upto labelBackSpec)) labelBackUptoCard

/-- THE SECOND FORM's CARD OF 'hopperlaw3.LabelShards'. -/
def labelShardsUptoCard : Claim7 := { stood := { row := labelShardsUptoRow, standIns := [], harness := (true, "a6e4e16c0684f718006128e02383f56adcd7a0402393691cef311e22730daaab"), looks := false }, kinds := [], alts := [], laidByText := true, laidKinds := [.data, .pinned], laidTests := true, laidLooks := .later }
def LabelShardsUptoCardSaid : Prop := Claim7.holds Tryd.pinned (.plain (OpenSpec.upto labelShardsSpec)) labelShardsUptoCard

/-- THE SECOND FORM's CARD OF 'hopperlaw3.LabelRefuses'. -/
def labelRefusesUptoCard : Claim7 := { stood := { row := labelRefusesUptoRow, standIns := [], harness := (true, "a6e4e16c0684f718006128e02383f56adcd7a0402393691cef311e22730daaab"), looks := false }, kinds := [], alts := [], laidByText := true, laidKinds := [.data, .pinned], laidTests := true, laidLooks := .later }
def LabelRefusesUptoCardSaid : Prop := Claim7.holds Tryd.pinned (.plain (OpenSpec.upto labelRefusesSpec)) labelRefusesUptoCard
end Rows
end Go.Proofs.YthkkfdnechmddaaDoor
