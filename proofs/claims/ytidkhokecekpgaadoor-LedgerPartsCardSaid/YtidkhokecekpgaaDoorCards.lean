/-
  DERIVED. GIVEN WITH THE SEED: THE CARDS: each row of YtidkhokecekpgaaDoorRows.lean that lists a variable, with what it lists TIED to the program's text (the seventh form; the later family's looks); each row that meets fmt, with fmt's text TOLD by the authors' own Lean function (tested against real Go, not proved from fmt's source: count such statements apart). THE CARD IS WHAT COUNTS. Prove the row's statement (the work); the ties are given (YtidkhokecekpgaaDoorTie.lean); close each card by the builder's one call (the guide's Derived/Test/ToyasCard.lean, 'card_holds'). Laid BY PROGRAM, IN A SANDBOX (cutbox-door.mjs). By AI agents, Wed Nov 11 2026. No macro, syntax, notation, axiom, sorry.
-/
import Derived.Test.YtidkhokecekpgaaDoorRows
import GoSem.ClaimSeven
namespace Go.Proofs.YtidkhokecekpgaaDoor
namespace Rows

/-- THE TIED CARD OF 'hopperlaw26.LedgerParts'. -/
def ledgerPartsCard : Claim7 := { stood := { row := ledgerPartsRow, standIns := [], harness := (true, "905db27f39c7953336f0ff8f411fff789d39639fe5e9bc7fbf7a41f80f354b6e"), looks := false }, kinds := [], alts := [], laidByText := true, laidKinds := [.data, .pinned], laidTests := true, laidLooks := .later }
def LedgerPartsCardSaid : Prop := Claim7.holds Tryd.pinned (.plain (OpenSpec.ofChange ledgerPartsSpec)) ledgerPartsCard

/-- THE TIED CARD OF 'hopperlaw26.LedgerTops'. -/
def ledgerTopsCard : Claim7 := { stood := { row := ledgerTopsRow, standIns := [], harness := (true, "905db27f39c7953336f0ff8f411fff789d39639fe5e9bc7fbf7a41f80f354b6e"), looks := false }, kinds := [], alts := [], laidByText := true, laidKinds := [.data, .pinned], laidTests := true, laidLooks := .later }
def LedgerTopsCardSaid : Prop := Claim7.holds Tryd.pinned (.plain (OpenSpec.ofChange ledgerTopsSpec)) ledgerTopsCard

/-- THE TIED CARD OF 'hopperlaw26.LedgerAgain'. -/
def ledgerAgainCard : Claim7 := { stood := { row := ledgerAgainRow, standIns := [], harness := (true, "905db27f39c7953336f0ff8f411fff789d39639fe5e9bc7fbf7a41f80f354b6e"), looks := false }, kinds := [], alts := [], laidByText := true, laidKinds := [.data, .pinned], laidTests := true, laidLooks := .later }
def LedgerAgainCardSaid : Prop := Claim7.holds Tryd.pinned (.plain (OpenSpec.ofChange ledgerAgainSpec)) ledgerAgainCard

/-- THE SECOND FORM's CARD OF 'hopperlaw26.LedgerParts'. -/
def ledgerPartsUptoCard : Claim7 := { stood := { row := ledgerPartsUptoRow, standIns := [], harness := (true, "905db27f39c7953336f0ff8f411fff789d39639fe5e9bc7fbf7a41f80f354b6e"), looks := false }, kinds := [], alts := [], laidByText := true, laidKinds := [.data, .pinned], laidTests := true, laidLooks := .later }
def LedgerPartsUptoCardSaid : Prop := Claim7.holds Tryd.pinned (.plain (OpenSpec.upto ledgerPartsSpec)) ledgerPartsUptoCard

/-- THE SECOND FORM's CARD OF 'hopperlaw26.LedgerTops'. -/
def ledgerTopsUptoCard : Claim7 := { stood := { row := ledgerTopsUptoRow, standIns := [], harness := (true, "905db27f39c7953336f0ff8f411fff789d39639fe5e9bc7fbf7a41f80f354b6e"), looks := false }, kinds := [], alts := [], laidByText := true, laidKinds := [.data, .pinned], laidTests := true, laidLooks := .later }
def LedgerTopsUptoCardSaid : Prop := Claim7.holds Tryd.pinned (.plain (OpenSpec.upto ledgerTopsSpec)) ledgerTopsUptoCard

/-- THE SECOND FORM's CARD OF 'hopperlaw26.LedgerAgain'. -/
def ledgerAgainUptoCard : Claim7 := { stood := { row := ledgerAgainUptoRow, standIns := [], harness := (true, "905db27f39c7953336f0ff8f411fff789d39639fe5e9bc7fbf7a41f80f354b6e"), looks := false }, kinds := [], alts := [], laidByText := true, laidKinds := [.data, .pinned], laidTests := true, laidLooks := .later }
def LedgerAgainUptoCardSaid : Prop := Claim7.holds Tryd.pinned (.plain (OpenSpec.upto ledgerAgainSpec)) ledgerAgainUptoCard
end Rows
end Go.Proofs.YtidkhokecekpgaaDoor
