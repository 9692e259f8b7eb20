/-
  DERIVED. GIVEN WITH THE SEED: THE CARDS: each row of YtmijcbfgfkeodaaGreatDoorRows.lean that lists a variable, with what it lists TIED to the program's text (the seventh form; the later family's looks); each row that meets fmt, with fmt's text TOLD by the authors' own Lean function (tested against real Go, not proved from fmt's source: count such statements apart). THE CARD IS WHAT COUNTS. Prove the row's statement (the work); the ties are given (YtmijcbfgfkeodaaGreatDoorTie.lean); close each card by the builder's one call (the guide's Derived/Test/ToyasCard.lean, 'card_holds'). Laid BY PROGRAM, IN A SANDBOX (cutbox-door.mjs). By AI agents, Wed Nov 11 2026. No macro, syntax, notation, axiom, sorry.
-/
import Derived.Test.YtmijcbfgfkeodaaGreatDoorRows
import GoSem.ClaimSeven
namespace Go.Proofs.YtmijcbfgfkeodaaGreatDoor
namespace Rows

/-- THE TIED CARD OF 'hoppertop.TopFar'. -/
def topFarCard : Claim7 := { stood := { row := topFarRow, standIns := [], harness := (true, "432da837a4f61510b5613f3131fe56fb9e26e86a1acc7876123bd25e713e1a32"), looks := false }, kinds := [], alts := [], laidByText := true, laidKinds := [.data, .pinned], laidTests := true, laidLooks := .later }
def TopFarCardSaid : Prop := Claim7.holds Tryz.pinned (.plain (OpenSpec.ofChange topFarSpec)) topFarCard

/-- THE TIED CARD OF 'hoppertop.TopGaps'. -/
def topGapsCard : Claim7 := { stood := { row := topGapsRow, standIns := [], harness := (true, "432da837a4f61510b5613f3131fe56fb9e26e86a1acc7876123bd25e713e1a32"), looks := false }, kinds := [], alts := [], laidByText := true, laidKinds := [.data, .pinned], laidTests := true, laidLooks := .later }
def TopGapsCardSaid : Prop := Claim7.holds Tryz.pinned (.plain (OpenSpec.ofChange topGapsSpec)) topGapsCard

/-- THE TIED CARD OF 'hoppertop.TopFolds'. -/
def topFoldsCard : Claim7 := { stood := { row := topFoldsRow, standIns := [], harness := (true, "432da837a4f61510b5613f3131fe56fb9e26e86a1acc7876123bd25e713e1a32"), looks := false }, kinds := [], alts := [], laidByText := true, laidKinds := [.data, .pinned], laidTests := true, laidLooks := .later }
def TopFoldsCardSaid : Prop := Claim7.holds Tryz.pinned (.plain (OpenSpec.ofChange topFoldsSpec)) topFoldsCard

/-- THE TIED CARD OF 'hoppertop.TopEpochs'. -/
def topEpochsCard : Claim7 := { stood := { row := topEpochsRow, standIns := [], harness := (true, "432da837a4f61510b5613f3131fe56fb9e26e86a1acc7876123bd25e713e1a32"), looks := false }, kinds := [], alts := [], laidByText := true, laidKinds := [.data, .pinned], laidTests := true, laidLooks := .later }
def TopEpochsCardSaid : Prop := Claim7.holds Tryz.pinned (.plain (OpenSpec.ofChange topEpochsSpec)) topEpochsCard

/-- THE TIED CARD OF 'hoppertop.TopBytes'. -/
def topBytesCard : Claim7 := { stood := { row := topBytesRow, standIns := [], harness := (true, "432da837a4f61510b5613f3131fe56fb9e26e86a1acc7876123bd25e713e1a32"), looks := false }, kinds := [], alts := [], laidByText := true, laidKinds := [.data, .pinned], laidTests := true, laidLooks := .later }
def TopBytesCardSaid : Prop := Claim7.holds Tryz.pinned (.plain (OpenSpec.ofChange topBytesSpec)) topBytesCard

/-- THE TIED CARD OF 'hoppertop.TopLedgers'. -/
def topLedgersCard : Claim7 := { stood := { row := topLedgersRow, standIns := [], harness := (true, "432da837a4f61510b5613f3131fe56fb9e26e86a1acc7876123bd25e713e1a32"), looks := false }, kinds := [], alts := [], laidByText := true, laidKinds := [.data, .pinned], laidTests := true, laidLooks := .later }
def TopLedgersCardSaid : Prop := Claim7.holds Tryz.pinned (.plain (OpenSpec.ofChange topLedgersSpec)) topLedgersCard

/-- THE TIED CARD OF 'hoppertop.TopJoined'. -/
def topJoinedCard : Claim7 := { stood := { row := topJoinedRow, standIns := [], harness := (true, "432da837a4f61510b5613f3131fe56fb9e26e86a1acc7876123bd25e713e1a32"), looks := false }, kinds := [], alts := [], laidByText := true, laidKinds := [.data, .pinned], laidTests := true, laidLooks := .later }
def TopJoinedCardSaid : Prop := Claim7.holds Tryz.pinned (.plain (OpenSpec.ofChange topJoinedSpec)) topJoinedCard

/-- THE TIED CARD OF 'hoppertop.TopAsks'. -/
def topAsksCard : Claim7 := { stood := { row := topAsksRow, standIns := [], harness := (true, "432da837a4f61510b5613f3131fe56fb9e26e86a1acc7876123bd25e713e1a32"), looks := false }, kinds := [], alts := [], laidByText := true, laidKinds := [.data, .pinned], laidTests := true, laidLooks := .later }
def TopAsksCardSaid : Prop := Claim7.holds Tryz.pinned (.plain (OpenSpec.ofChange topAsksSpec)) topAsksCard

/-- THE SECOND FORM's CARD OF 'hoppertop.TopFar'. -/
def topFarUptoCard : Claim7 := { stood := { row := topFarUptoRow, standIns := [], harness := (true, "432da837a4f61510b5613f3131fe56fb9e26e86a1acc7876123bd25e713e1a32"), looks := false }, kinds := [], alts := [], laidByText := true, laidKinds := [.data, .pinned], laidTests := true, laidLooks := .later }
def TopFarUptoCardSaid : Prop := Claim7.holds Tryz.pinned (.plain (OpenSpec.upto topFarSpec)) topFarUptoCard

/-- THE SECOND FORM's CARD OF 'hoppertop.TopGaps'. -/
def topGapsUptoCard : Claim7 := { stood := { row := topGapsUptoRow, standIns := [], harness := (true, "432da837a4f61510b5613f3131fe56fb9e26e86a1acc7876123bd25e713e1a32"), looks := false }, kinds := [], alts := [], laidByText := true, laidKinds := [.data, .pinned], laidTests := true, laidLooks := .later }
def TopGapsUptoCardSaid : Prop := Claim7.holds Tryz.pinned (.plain (OpenSpec.upto topGapsSpec)) topGapsUptoCard

/-- THE SECOND FORM's CARD OF 'hoppertop.TopFolds'. -/
def topFoldsUptoCard : Claim7 := { stood := { row := topFoldsUptoRow, standIns := [], harness := (true, "432da837a4f61510b5613f3131fe56fb9e26e86a1acc7876123bd25e713e1a32"), looks := false }, kinds := [], alts := [], laidByText := true, laidKinds := [.data, .pinned], laidTests := true, laidLooks := .later }
def TopFoldsUptoCardSaid : Prop := Claim7.holds Tryz.pinned (.plain (OpenSpec.upto topFoldsSpec)) topFoldsUptoCard

/-- THE SECOND FORM's CARD OF 'hoppertop.TopEpochs'. -/
def topEpochsUptoCard : Claim7 := { stood := { row := topEpochsUptoRow, standIns := [], harness := (true, "432da837a4f61510b5613f3131fe56fb9e26e86a1acc7876123bd25e713e1a32"), looks := false }, kinds := [], alts := [], laidByText := true, laidKinds := [.data, .pinned], laidTests := true, laidLooks := .later }
def TopEpochsUptoCardSaid : Prop := Claim7.holds Tryz.pinned (.plain (OpenSpec.upto topEpochsSpec)) topEpochsUptoCard

/-- THE SECOND FORM's CARD OF 'hoppertop.TopBytes'. -/
def topBytesUptoCard : Claim7 := { stood := { row := topBytesUptoRow, standIns := [], harness := (true, "432da837a4f61510b5613f3131fe56fb9e26e86a1acc7876123bd25e713e1a32"), looks := false }, kinds := [], alts := [], laidByText := true, laidKinds := [.data, .pinned], laidTests := true, laidLooks := .later }
def TopBytesUptoCardSaid : Prop := Claim7.holds Tryz.pinned (.plain (OpenSpec.upto topBytesSpec)) topBytesUptoCard

/-- THE SECOND FORM's CARD OF 'hoppertop.TopLedgers'. -/
def topLedgersUptoCard : Claim7 := { stood := { row := topLedgersUptoRow, standIns := [], harness := (true, "432da837a4f61510b5613f3131fe56fb9e26e86a1acc7876123bd25e713e1a32"), looks := false }, kinds := [], alts := [], laidByText := true, laidKinds := [.data, .pinned], laidTests := true, laidLooks := .later }
def TopLedgersUptoCardSaid : Prop := Claim7.holds Tryz.pinned (.plain (OpenSpec.upto topLedgersSpec)) topLedgersUptoCard

/-- THE SECOND FORM's CARD OF 'hoppertop.TopJoined'. -/
def topJoinedUptoCard : Claim7 := { stood := { row := topJoinedUptoRow, standIns := [], harness := (true, "432da837a4f61510b5613f3131fe56fb9e26e86a1acc7876123bd25e713e1a32"), looks := false }, kinds := [], alts := [], laidByText := true, laidKinds := [.data, .pinned], laidTests := true, laidLooks := .later }
def TopJoinedUptoCardSaid : Prop := Claim7.holds Tryz.pinned (.plain (OpenSpec.upto topJoinedSpec)) topJoinedUptoCard

/-- THE SECOND FORM's CARD OF 'hoppertop.TopAsks'. -/
def topAsksUptoCard : Claim7 := { stood := { row := topAsksUptoRow, standIns := [], harness := (true, "432da837a4f61510b5613f3131fe56fb9e26e86a1acc7876123bd25e713e1a32"), looks := false }, kinds := [], alts := [], laidByText := true, laidKinds := [.data, .pinned], laidTests := true, laidLooks := .later }
def TopAsksUptoCardSaid : Prop := Claim7.holds Tryz.pinned (.plain (OpenSpec.upto topAsksSpec)) topAsksUptoCard
end Rows
end Go.Proofs.YtmijcbfgfkeodaaGreatDoor
