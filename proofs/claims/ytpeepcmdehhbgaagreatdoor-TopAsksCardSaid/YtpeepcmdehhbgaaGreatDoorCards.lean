/-
  DERIVED. GIVEN WITH THE SEED: THE CARDS: each row of YtpeepcmdehhbgaaGreatDoorRows.lean that lists a variable, with what it lists TIED to the program's text (the seventh form; the later family's looks); each row that meets fmt, with fmt's text TOLD by the authors' own Lean function (tested against real Go, not proved from fmt's source: count such statements apart). THE CARD IS WHAT COUNTS. Prove the row's statement (the work); the ties are given (YtpeepcmdehhbgaaGreatDoorTie.lean); close each card by the builder's one call (the guide's Derived/Test/ToyasCard.lean, 'card_holds'). Laid BY PROGRAM, IN A SANDBOX (cutbox-door.mjs). By AI agents, Wed Nov 11 2026. No macro, syntax, notation, axiom, sorry.
-/
import Derived.Test.YtpeepcmdehhbgaaGreatDoorRows
import GoSem.ClaimSeven
namespace Go.Proofs.YtpeepcmdehhbgaaGreatDoor
namespace Rows

/-- THE TIED CARD OF 'hoppertop.TopBytes'. -/
def topBytesCard : Claim7 := { stood := { row := topBytesRow, standIns := [], harness := (true, "a537f740e6fc3b9cf98dea935708cc4bf8ff5a86e69b021a69a89dda7c59098e"), looks := false }, kinds := [], alts := [], laidByText := true, laidKinds := [.data, .pinned], laidTests := true, laidLooks := .later }
def TopBytesCardSaid : Prop := Claim7.holds Tryz.pinned (.plain (OpenSpec.ofChange topBytesSpec)) topBytesCard

/-- THE TIED CARD OF 'hoppertop.TopLedgers'. -/
def topLedgersCard : Claim7 := { stood := { row := topLedgersRow, standIns := [], harness := (true, "a537f740e6fc3b9cf98dea935708cc4bf8ff5a86e69b021a69a89dda7c59098e"), looks := false }, kinds := [], alts := [], laidByText := true, laidKinds := [.data, .pinned], laidTests := true, laidLooks := .later }
def TopLedgersCardSaid : Prop := Claim7.holds Tryz.pinned (.plain (OpenSpec.ofChange topLedgersSpec)) topLedgersCard

/-- THE TIED CARD OF 'hoppertop.TopJoined'. -/
def topJoinedCard : Claim7 := { stood := { row := topJoinedRow, standIns := [], harness := (true, "a537f740e6fc3b9cf98dea935708cc4bf8ff5a86e69b021a69a89dda7c59098e"), looks := false }, kinds := [], alts := [], laidByText := true, laidKinds := [.data, .pinned], laidTests := true, laidLooks := .later }
def TopJoinedCardSaid : Prop := Claim7.holds Tryz.pinned (.plain (OpenSpec.ofChange topJoinedSpec)) topJoinedCard

/-- THE TIED CARD OF 'hoppertop.TopAsks'. -/
def topAsksCard : Claim7 := { stood := { row := topAsksRow, standIns := [], harness := (true, "a537f740e6fc3b9cf98dea935708cc4bf8ff5a86e69b021a69a89dda7c59098e"), looks := false }, kinds := [], alts := [], laidByText := true, laidKinds := [.data, .pinned], laidTests := true, laidLooks := .later }
def TopAsksCardSaid : Prop := Claim7.holds Tryz.pinned (.plain (OpenSpec.ofChange topAsksSpec)) topAsksCard

/-- THE TIED CARD OF 'hoppertop.TopLeaders'. -/
def topLeadersCard : Claim7 := { stood := { row := topLeadersRow, standIns := [], harness := (true, "a537f740e6fc3b9cf98dea935708cc4bf8ff5a86e69b021a69a89dda7c59098e"), looks := false }, kinds := [], alts := [], laidByText := true, laidKinds := [.data, .pinned], laidTests := true, laidLooks := .later }
def TopLeadersCardSaid : Prop := Claim7.holds Tryz.pinned (.plain (OpenSpec.ofChange topLeadersSpec)) topLeadersCard

/-- THE TIED CARD OF 'hoppertop.TopCrashes'. -/
def topCrashesCard : Claim7 := { stood := { row := topCrashesRow, standIns := [], harness := (true, "a537f740e6fc3b9cf98dea935708cc4bf8ff5a86e69b021a69a89dda7c59098e"), looks := false }, kinds := [], alts := [], laidByText := true, laidKinds := [.data, .pinned], laidTests := true, laidLooks := .later }
def TopCrashesCardSaid : Prop := Claim7.holds Tryz.pinned (.plain (OpenSpec.ofChange topCrashesSpec)) topCrashesCard

/-- THE TIED CARD OF 'hoppertop.TopSame'. -/
def topSameCard : Claim7 := { stood := { row := topSameRow, standIns := [], harness := (true, "a537f740e6fc3b9cf98dea935708cc4bf8ff5a86e69b021a69a89dda7c59098e"), looks := false }, kinds := [], alts := [], laidByText := true, laidKinds := [.data, .pinned], laidTests := true, laidLooks := .later }
def TopSameCardSaid : Prop := Claim7.holds Tryz.pinned (.plain (OpenSpec.ofChange topSameSpec)) topSameCard

/-- THE TIED CARD OF 'hoppertop.TopDisks'. -/
def topDisksCard : Claim7 := { stood := { row := topDisksRow, standIns := [], harness := (true, "a537f740e6fc3b9cf98dea935708cc4bf8ff5a86e69b021a69a89dda7c59098e"), looks := false }, kinds := [], alts := [], laidByText := true, laidKinds := [.data, .pinned], laidTests := true, laidLooks := .later }
def TopDisksCardSaid : Prop := Claim7.holds Tryz.pinned (.plain (OpenSpec.ofChange topDisksSpec)) topDisksCard

/-- THE TIED CARD OF 'hoppertop.TopEmpty'. -/
def topEmptyCard : Claim7 := { stood := { row := topEmptyRow, standIns := [], harness := (true, "a537f740e6fc3b9cf98dea935708cc4bf8ff5a86e69b021a69a89dda7c59098e"), looks := false }, kinds := [], alts := [], laidByText := true, laidKinds := [.data, .pinned], laidTests := true, laidLooks := .later }
def TopEmptyCardSaid : Prop := Claim7.holds Tryz.pinned (.plain (OpenSpec.ofChange topEmptySpec)) topEmptyCard

/-- THE TIED CARD OF 'hoppertop.TopMinority'. -/
def topMinorityCard : Claim7 := { stood := { row := topMinorityRow, standIns := [], harness := (true, "a537f740e6fc3b9cf98dea935708cc4bf8ff5a86e69b021a69a89dda7c59098e"), looks := false }, kinds := [], alts := [], laidByText := true, laidKinds := [.data, .pinned], laidTests := true, laidLooks := .later }
def TopMinorityCardSaid : Prop := Claim7.holds Tryz.pinned (.plain (OpenSpec.ofChange topMinoritySpec)) topMinorityCard

/-- THE TIED CARD OF 'hoppertop.TopSeries'. -/
def topSeriesCard : Claim7 := { stood := { row := topSeriesRow, standIns := [], harness := (true, "a537f740e6fc3b9cf98dea935708cc4bf8ff5a86e69b021a69a89dda7c59098e"), looks := false }, kinds := [], alts := [], laidByText := true, laidKinds := [.data, .pinned], laidTests := true, laidLooks := .later }
def TopSeriesCardSaid : Prop := Claim7.holds Tryz.pinned (.plain (OpenSpec.ofChange topSeriesSpec)) topSeriesCard

/-- THE TIED CARD OF 'hoppertop.TopFive'. -/
def topFiveCard : Claim7 := { stood := { row := topFiveRow, standIns := [], harness := (true, "a537f740e6fc3b9cf98dea935708cc4bf8ff5a86e69b021a69a89dda7c59098e"), looks := false }, kinds := [], alts := [], laidByText := true, laidKinds := [.data, .pinned], laidTests := true, laidLooks := .later }
def TopFiveCardSaid : Prop := Claim7.holds Tryz.pinned (.plain (OpenSpec.ofChange topFiveSpec)) topFiveCard

/-- THE SECOND FORM's CARD OF 'hoppertop.TopBytes'. -/
def topBytesUptoCard : Claim7 := { stood := { row := topBytesUptoRow, standIns := [], harness := (true, "a537f740e6fc3b9cf98dea935708cc4bf8ff5a86e69b021a69a89dda7c59098e"), looks := false }, kinds := [], alts := [], laidByText := true, laidKinds := [.data, .pinned], laidTests := true, laidLooks := .later }
def TopBytesUptoCardSaid : Prop := Claim7.holds Tryz.pinned (.plain (OpenSpec.upto topBytesSpec)) topBytesUptoCard

/-- THE SECOND FORM's CARD OF 'hoppertop.TopLedgers'. -/
def topLedgersUptoCard : Claim7 := { stood := { row := topLedgersUptoRow, standIns := [], harness := (true, "a537f740e6fc3b9cf98dea935708cc4bf8ff5a86e69b021a69a89dda7c59098e"), looks := false }, kinds := [], alts := [], laidByText := true, laidKinds := [.data, .pinned], laidTests := true, laidLooks := .later }
def TopLedgersUptoCardSaid : Prop := Claim7.holds Tryz.pinned (.plain (OpenSpec.upto topLedgersSpec)) topLedgersUptoCard

/-- THE SECOND FORM's CARD OF 'hoppertop.TopJoined'. -/
def topJoinedUptoCard : Claim7 := { stood := { row := topJoinedUptoRow, standIns := [], harness := (true, "a537f740e6fc3b9cf98dea935708cc4bf8ff5a86e69b021a69a89dda7c59098e"), looks := false }, kinds := [], alts := [], laidByText := true, laidKinds := [.data, .pinned], laidTests := true, laidLooks := .later }
def TopJoinedUptoCardSaid : Prop := Claim7.holds Tryz.pinned (.plain (OpenSpec.upto topJoinedSpec)) topJoinedUptoCard

/-- THE SECOND FORM's CARD OF 'hoppertop.TopAsks'. -/
def topAsksUptoCard : Claim7 := { stood := { row := topAsksUptoRow, standIns := [], harness := (true, "a537f740e6fc3b9cf98dea935708cc4bf8ff5a86e69b021a69a89dda7c59098e"), looks := false }, kinds := [], alts := [], laidByText := true, laidKinds := [.data, .pinned], laidTests := true, laidLooks := .later }
def TopAsksUptoCardSaid : Prop := Claim7.holds Tryz.pinned (.plain (OpenSpec.upto topAsksSpec)) topAsksUptoCard

/-- THE SECOND FORM's CARD OF 'hoppertop.TopLeaders'. -/
def topLeadersUptoCard : Claim7 := { stood := { row := topLeadersUptoRow, standIns := [], harness := (true, "a537f740e6fc3b9cf98dea935708cc4bf8ff5a86e69b021a69a89dda7c59098e"), looks := false }, kinds := [], alts := [], laidByText := true, laidKinds := [.data, .pinned], laidTests := true, laidLooks := .later }
def TopLeadersUptoCardSaid : Prop := Claim7.holds Tryz.pinned (.plain (OpenSpec.upto topLeadersSpec)) topLeadersUptoCard

/-- THE SECOND FORM's CARD OF 'hoppertop.TopCrashes'. -/
def topCrashesUptoCard : Claim7 := { stood := { row := topCrashesUptoRow, standIns := [], harness := (true, "a537f740e6fc3b9cf98dea935708cc4bf8ff5a86e69b021a69a89dda7c59098e"), looks := false }, kinds := [], alts := [], laidByText := true, laidKinds := [.data, .pinned], laidTests := true, laidLooks := .later }
def TopCrashesUptoCardSaid : Prop := Claim7.holds Tryz.pinned (.plain (OpenSpec.upto topCrashesSpec)) topCrashesUptoCard

/-- THE SECOND FORM's CARD OF 'hoppertop.TopSame'. -/
def topSameUptoCard : Claim7 := { stood := { row := topSameUptoRow, standIns := [], harness := (true, "a537f740e6fc3b9cf98dea935708cc4bf8ff5a86e69b021a69a89dda7c59098e"), looks := false }, kinds := [], alts := [], laidByText := true, laidKinds := [.data, .pinned], laidTests := true, laidLooks := .later }
def TopSameUptoCardSaid : Prop := Claim7.holds Tryz.pinned (.plain (OpenSpec.upto topSameSpec)) topSameUptoCard

/-- THE SECOND FORM's CARD OF 'hoppertop.TopDisks'. -/
def topDisksUptoCard : Claim7 := { stood := { row := topDisksUptoRow, standIns := [], harness := (true, "a537f740e6fc3b9cf98dea935708cc4bf8ff5a86e69b021a69a89dda7c59098e"), looks := false }, kinds := [], alts := [], laidByText := true, laidKinds := [.data, .pinned], laidTests := true, laidLooks := .later }
def TopDisksUptoCardSaid : Prop := Claim7.holds Tryz.pinned (.plain (OpenSpec.upto topDisksSpec)) topDisksUptoCard

/-- THE SECOND FORM's CARD OF 'hoppertop.TopEmpty'. -/
def topEmptyUptoCard : Claim7 := { stood := { row := topEmptyUptoRow, standIns := [], harness := (true, "a537f740e6fc3b9cf98dea935708cc4bf8ff5a86e69b021a69a89dda7c59098e"), looks := false }, kinds := [], alts := [], laidByText := true, laidKinds := [.data, .pinned], laidTests := true, laidLooks := .later }
def TopEmptyUptoCardSaid : Prop := Claim7.holds Tryz.pinned (.plain (OpenSpec.upto topEmptySpec)) topEmptyUptoCard

/-- THE SECOND FORM's CARD OF 'hoppertop.TopMinority'. -/
def topMinorityUptoCard : Claim7 := { stood := { row := topMinorityUptoRow, standIns := [], harness := (true, "a537f740e6fc3b9cf98dea935708cc4bf8ff5a86e69b021a69a89dda7c59098e"), looks := false }, kinds := [], alts := [], laidByText := true, laidKinds := [.data, .pinned], laidTests := true, laidLooks := .later }
def TopMinorityUptoCardSaid : Prop := Claim7.holds Tryz.pinned (.plain (OpenSpec.upto topMinoritySpec)) topMinorityUptoCard

/-- THE SECOND FORM's CARD OF 'hoppertop.TopSeries'. -/
def topSeriesUptoCard : Claim7 := { stood := { row := topSeriesUptoRow, standIns := [], harness := (true, "a537f740e6fc3b9cf98dea935708cc4bf8ff5a86e69b021a69a89dda7c59098e"), looks := false }, kinds := [], alts := [], laidByText := true, laidKinds := [.data, .pinned], laidTests := true, laidLooks := .later }
def TopSeriesUptoCardSaid : Prop := Claim7.holds Tryz.pinned (.plain (OpenSpec.upto topSeriesSpec)) topSeriesUptoCard

/-- THE SECOND FORM's CARD OF 'hoppertop.TopFive'. -/
def topFiveUptoCard : Claim7 := { stood := { row := topFiveUptoRow, standIns := [], harness := (true, "a537f740e6fc3b9cf98dea935708cc4bf8ff5a86e69b021a69a89dda7c59098e"), looks := false }, kinds := [], alts := [], laidByText := true, laidKinds := [.data, .pinned], laidTests := true, laidLooks := .later }
def TopFiveUptoCardSaid : Prop := Claim7.holds Tryz.pinned (.plain (OpenSpec.upto topFiveSpec)) topFiveUptoCard
end Rows
end Go.Proofs.YtpeepcmdehhbgaaGreatDoor
