/-
  DERIVED. GIVEN WITH THE SEED: THE CARDS: each row of YtjhfalgmgagdhaaGreatDoorRows.lean that lists a variable, with what it lists TIED to the program's text (the seventh form; the later family's looks); each row that meets fmt, with fmt's text TOLD by the authors' own Lean function (tested against real Go, not proved from fmt's source: count such statements apart). THE CARD IS WHAT COUNTS. Prove the row's statement (the work); the ties are given (YtjhfalgmgagdhaaGreatDoorTie.lean); close each card by the builder's one call (the guide's Derived/Test/ToyasCard.lean, 'card_holds'). Laid BY PROGRAM, IN A SANDBOX (cutbox-door.mjs). By AI agents, Wed Nov 11 2026. No macro, syntax, notation, axiom, sorry.
-/
import Derived.Test.YtjhfalgmgagdhaaGreatDoorRows
import GoSem.ClaimSeven
namespace Go.Proofs.YtjhfalgmgagdhaaGreatDoor
namespace Rows

/-- THE TIED CARD OF 'zigguratlaw22.ModnRemainders'. -/
def modnRemaindersCard : Claim7 := { stood := { row := modnRemaindersRow, standIns := [], harness := (true, "997b199495ee6286ea14894fb7b7250d4af9324cd4001ae85384c115e0d0290e"), looks := false }, kinds := [], alts := [], laidByText := true, laidKinds := [.data], laidTests := true, laidLooks := .later }
def ModnRemaindersCardSaid : Prop := Claim7.holds Tryz.pinned (.plain (OpenSpec.ofChange modnRemaindersSpec)) modnRemaindersCard

/-- THE TIED CARD OF 'zigguratlaw29.ZmulWays'. -/
def zmulWaysCard : Claim7 := { stood := { row := zmulWaysRow, standIns := [], harness := (true, "997b199495ee6286ea14894fb7b7250d4af9324cd4001ae85384c115e0d0290e"), looks := false }, kinds := [], alts := [], laidByText := true, laidKinds := [.data], laidTests := true, laidLooks := .later }
def ZmulWaysCardSaid : Prop := Claim7.holds Tryz.pinned (.plain (OpenSpec.ofChange zmulWaysSpec)) zmulWaysCard

/-- THE TIED CARD OF 'zigguratlaw29.ZmulTables'. -/
def zmulTablesCard : Claim7 := { stood := { row := zmulTablesRow, standIns := [], harness := (true, "997b199495ee6286ea14894fb7b7250d4af9324cd4001ae85384c115e0d0290e"), looks := false }, kinds := [], alts := [], laidByText := true, laidKinds := [.data], laidTests := true, laidLooks := .later }
def ZmulTablesCardSaid : Prop := Claim7.holds Tryz.pinned (.plain (OpenSpec.ofChange zmulTablesSpec)) zmulTablesCard

/-- THE TIED CARD OF 'zigguratlaw29.ZmulAlls'. -/
def zmulAllsCard : Claim7 := { stood := { row := zmulAllsRow, standIns := [], harness := (true, "997b199495ee6286ea14894fb7b7250d4af9324cd4001ae85384c115e0d0290e"), looks := false }, kinds := [], alts := [], laidByText := true, laidKinds := [.data], laidTests := true, laidLooks := .later }
def ZmulAllsCardSaid : Prop := Claim7.holds Tryz.pinned (.plain (OpenSpec.ofChange zmulAllsSpec)) zmulAllsCard

/-- THE SECOND FORM's CARD OF 'zigguratlaw22.ModnRemainders'. -/
def modnRemaindersUptoCard : Claim7 := { stood := { row := modnRemaindersUptoRow, standIns := [], harness := (true, "997b199495ee6286ea14894fb7b7250d4af9324cd4001ae85384c115e0d0290e"), looks := false }, kinds := [], alts := [], laidByText := true, laidKinds := [.data], laidTests := true, laidLooks := .later }
def ModnRemaindersUptoCardSaid : Prop := Claim7.holds Tryz.pinned (.plain (OpenSpec.upto modnRemaindersSpec)) modnRemaindersUptoCard

/-- THE SECOND FORM's CARD OF 'zigguratlaw29.ZmulWays'. -/
def zmulWaysUptoCard : Claim7 := { stood := { row := zmulWaysUptoRow, standIns := [], harness := (true, "997b199495ee6286ea14894fb7b7250d4af9324cd4001ae85384c115e0d0290e"), looks := false }, kinds := [], alts := [], laidByText := true, laidKinds := [.data], laidTests := true, laidLooks := .later }
def ZmulWaysUptoCardSaid : Prop := Claim7.holds Tryz.pinned (.plain (OpenSpec.upto zmulWaysSpec)) zmulWaysUptoCard

/-- THE SECOND FORM's CARD OF 'zigguratlaw29.ZmulTables'. -/
def zmulTablesUptoCard : Claim7 := { stood := { row := zmulTablesUptoRow, standIns := [], harness := (true, "997b199495ee6286ea14894fb7b7250d4af9324cd4001ae85384c115e0d0290e"), looks := false }, kinds := [], alts := [], laidByText := true, laidKinds := [.data], laidTests := true, laidLooks := .later }
def ZmulTablesUptoCardSaid : Prop := Claim7.holds Tryz.pinned (.plain (OpenSpec.upto zmulTablesSpec)) zmulTablesUptoCard

/-- THE SECOND FORM's CARD OF 'zigguratlaw29.ZmulAlls'. -/
def zmulAllsUptoCard : Claim7 := { stood := { row := zmulAllsUptoRow, standIns := [], harness := (true, "997b199495ee6286ea14894fb7b7250d4af9324cd4001ae85384c115e0d0290e"), looks := false }, kinds := [], alts := [], laidByText := true, laidKinds := [.data], laidTests := true, laidLooks := .later }
def ZmulAllsUptoCardSaid : Prop := Claim7.holds Tryz.pinned (.plain (OpenSpec.upto zmulAllsSpec)) zmulAllsUptoCard
end Rows
end Go.Proofs.YtjhfalgmgagdhaaGreatDoor
