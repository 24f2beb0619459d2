/-
  DERIVED. GIVEN WITH THE SEED: THE CARDS: each row of YticehedkalheiaaGreatDoorRows.lean that lists a variable, with what it lists TIED to the program's text (the seventh form; the later family's looks); each row that meets fmt, with fmt's text TOLD by the authors' own Lean function (tested against real Go, not proved from fmt's source: count such statements apart). THE CARD IS WHAT COUNTS. Prove the row's statement (the work); the ties are given (YticehedkalheiaaGreatDoorTie.lean); close each card by the builder's one call (the guide's Derived/Test/ToyasCard.lean, 'card_holds'). Laid BY PROGRAM, IN A SANDBOX (cutbox-door.mjs). By AI agents, Wed Nov 11 2026. No macro, syntax, notation, axiom, sorry.
-/
import Derived.Test.YticehedkalheiaaGreatDoorRows
import GoSem.ClaimSeven
namespace Go.Proofs.YticehedkalheiaaGreatDoor
namespace Rows

/-- THE TIED CARD OF 'zigguratlaw21.HgcdSteps'. -/
def hgcdStepsCard : Claim7 := { stood := { row := hgcdStepsRow, standIns := [], harness := (true, "ef2060b0714d6729fe8d66c6524c6a431ad9733d15524ef4e2d44fd243cd53c9"), looks := false }, kinds := [], alts := [], laidByText := true, laidKinds := [.data], laidTests := true, laidLooks := .later }
def HgcdStepsCardSaid : Prop := Claim7.holds Tryz.pinned (.plain (OpenSpec.ofChange hgcdStepsSpec)) hgcdStepsCard

/-- THE TIED CARD OF 'zigguratlaw21.HgcdXgcds'. -/
def hgcdXgcdsCard : Claim7 := { stood := { row := hgcdXgcdsRow, standIns := [], harness := (true, "ef2060b0714d6729fe8d66c6524c6a431ad9733d15524ef4e2d44fd243cd53c9"), looks := false }, kinds := [], alts := [], laidByText := true, laidKinds := [.data], laidTests := true, laidLooks := .later }
def HgcdXgcdsCardSaid : Prop := Claim7.holds Tryz.pinned (.plain (OpenSpec.ofChange hgcdXgcdsSpec)) hgcdXgcdsCard

/-- THE TIED CARD OF 'zigguratlaw21.HgcdTables'. -/
def hgcdTablesCard : Claim7 := { stood := { row := hgcdTablesRow, standIns := [], harness := (true, "ef2060b0714d6729fe8d66c6524c6a431ad9733d15524ef4e2d44fd243cd53c9"), looks := false }, kinds := [], alts := [], laidByText := true, laidKinds := [.data], laidTests := true, laidLooks := .later }
def HgcdTablesCardSaid : Prop := Claim7.holds Tryz.pinned (.plain (OpenSpec.ofChange hgcdTablesSpec)) hgcdTablesCard

/-- THE TIED CARD OF 'zigguratlaw21.HgcdHalves'. -/
def hgcdHalvesCard : Claim7 := { stood := { row := hgcdHalvesRow, standIns := [], harness := (true, "ef2060b0714d6729fe8d66c6524c6a431ad9733d15524ef4e2d44fd243cd53c9"), looks := false }, kinds := [], alts := [], laidByText := true, laidKinds := [.data], laidTests := true, laidLooks := .later }
def HgcdHalvesCardSaid : Prop := Claim7.holds Tryz.pinned (.plain (OpenSpec.ofChange hgcdHalvesSpec)) hgcdHalvesCard

/-- THE TIED CARD OF 'zigguratlaw20.GcdTwos'. -/
def gcdTwosCard : Claim7 := { stood := { row := gcdTwosRow, standIns := [], harness := (true, "ef2060b0714d6729fe8d66c6524c6a431ad9733d15524ef4e2d44fd243cd53c9"), looks := false }, kinds := [], alts := [], laidByText := true, laidKinds := [.data], laidTests := true, laidLooks := .later }
def GcdTwosCardSaid : Prop := Claim7.holds Tryz.pinned (.plain (OpenSpec.ofChange gcdTwosSpec)) gcdTwosCard

/-- THE TIED CARD OF 'zigguratlaw20.GcdCoprimes'. -/
def gcdCoprimesCard : Claim7 := { stood := { row := gcdCoprimesRow, standIns := [], harness := (true, "ef2060b0714d6729fe8d66c6524c6a431ad9733d15524ef4e2d44fd243cd53c9"), looks := false }, kinds := [], alts := [], laidByText := true, laidKinds := [.data], laidTests := true, laidLooks := .later }
def GcdCoprimesCardSaid : Prop := Claim7.holds Tryz.pinned (.plain (OpenSpec.ofChange gcdCoprimesSpec)) gcdCoprimesCard

/-- THE TIED CARD OF 'zigguratlaw20.GcdSteps'. -/
def gcdStepsCard : Claim7 := { stood := { row := gcdStepsRow, standIns := [], harness := (true, "ef2060b0714d6729fe8d66c6524c6a431ad9733d15524ef4e2d44fd243cd53c9"), looks := false }, kinds := [], alts := [], laidByText := true, laidKinds := [.data], laidTests := true, laidLooks := .later }
def GcdStepsCardSaid : Prop := Claim7.holds Tryz.pinned (.plain (OpenSpec.ofChange gcdStepsSpec)) gcdStepsCard

/-- THE TIED CARD OF 'zigguratlaw21.HgcdTimes'. -/
def hgcdTimesCard : Claim7 := { stood := { row := hgcdTimesRow, standIns := [], harness := (true, "ef2060b0714d6729fe8d66c6524c6a431ad9733d15524ef4e2d44fd243cd53c9"), looks := false }, kinds := [], alts := [], laidByText := true, laidKinds := [.data], laidTests := true, laidLooks := .later }
def HgcdTimesCardSaid : Prop := Claim7.holds Tryz.pinned (.plain (OpenSpec.ofChange hgcdTimesSpec)) hgcdTimesCard

/-- THE TIED CARD OF 'zigguratlaw20.GcdAlls'. -/
def gcdAllsCard : Claim7 := { stood := { row := gcdAllsRow, standIns := [], harness := (true, "ef2060b0714d6729fe8d66c6524c6a431ad9733d15524ef4e2d44fd243cd53c9"), looks := false }, kinds := [], alts := [], laidByText := true, laidKinds := [.data], laidTests := true, laidLooks := .later }
def GcdAllsCardSaid : Prop := Claim7.holds Tryz.pinned (.plain (OpenSpec.ofChange gcdAllsSpec)) gcdAllsCard

/-- THE TIED CARD OF 'zigguratlaw20.GcdTables'. -/
def gcdTablesCard : Claim7 := { stood := { row := gcdTablesRow, standIns := [], harness := (true, "ef2060b0714d6729fe8d66c6524c6a431ad9733d15524ef4e2d44fd243cd53c9"), looks := false }, kinds := [], alts := [], laidByText := true, laidKinds := [.data], laidTests := true, laidLooks := .later }
def GcdTablesCardSaid : Prop := Claim7.holds Tryz.pinned (.plain (OpenSpec.ofChange gcdTablesSpec)) gcdTablesCard

/-- THE TIED CARD OF 'zigguratlaw20.GcdLaws'. -/
def gcdLawsCard : Claim7 := { stood := { row := gcdLawsRow, standIns := [], harness := (true, "ef2060b0714d6729fe8d66c6524c6a431ad9733d15524ef4e2d44fd243cd53c9"), looks := false }, kinds := [], alts := [], laidByText := true, laidKinds := [.data], laidTests := true, laidLooks := .later }
def GcdLawsCardSaid : Prop := Claim7.holds Tryz.pinned (.plain (OpenSpec.ofChange gcdLawsSpec)) gcdLawsCard

/-- THE TIED CARD OF 'zigguratlaw21.HgcdBezout'. -/
def hgcdBezoutCard : Claim7 := { stood := { row := hgcdBezoutRow, standIns := [], harness := (true, "ef2060b0714d6729fe8d66c6524c6a431ad9733d15524ef4e2d44fd243cd53c9"), looks := false }, kinds := [], alts := [], laidByText := true, laidKinds := [.data], laidTests := true, laidLooks := .later }
def HgcdBezoutCardSaid : Prop := Claim7.holds Tryz.pinned (.plain (OpenSpec.ofChange hgcdBezoutSpec)) hgcdBezoutCard

/-- THE TIED CARD OF 'zigguratlaw22.ModnInverses'. -/
def modnInversesCard : Claim7 := { stood := { row := modnInversesRow, standIns := [], harness := (true, "ef2060b0714d6729fe8d66c6524c6a431ad9733d15524ef4e2d44fd243cd53c9"), looks := false }, kinds := [], alts := [], laidByText := true, laidKinds := [.data], laidTests := true, laidLooks := .later }
def ModnInversesCardSaid : Prop := Claim7.holds Tryz.pinned (.plain (OpenSpec.ofChange modnInversesSpec)) modnInversesCard

/-- THE TIED CARD OF 'zigguratlaw22.ModnResidues'. -/
def modnResiduesCard : Claim7 := { stood := { row := modnResiduesRow, standIns := [], harness := (true, "ef2060b0714d6729fe8d66c6524c6a431ad9733d15524ef4e2d44fd243cd53c9"), looks := false }, kinds := [], alts := [], laidByText := true, laidKinds := [.data], laidTests := true, laidLooks := .later }
def ModnResiduesCardSaid : Prop := Claim7.holds Tryz.pinned (.plain (OpenSpec.ofChange modnResiduesSpec)) modnResiduesCard

/-- THE TIED CARD OF 'zigguratlaw22.ModnCrts'. -/
def modnCrtsCard : Claim7 := { stood := { row := modnCrtsRow, standIns := [], harness := (true, "ef2060b0714d6729fe8d66c6524c6a431ad9733d15524ef4e2d44fd243cd53c9"), looks := false }, kinds := [], alts := [], laidByText := true, laidKinds := [.data], laidTests := true, laidLooks := .later }
def ModnCrtsCardSaid : Prop := Claim7.holds Tryz.pinned (.plain (OpenSpec.ofChange modnCrtsSpec)) modnCrtsCard

/-- THE TIED CARD OF 'zigguratlaw22.ModnRemainders'. -/
def modnRemaindersCard : Claim7 := { stood := { row := modnRemaindersRow, standIns := [], harness := (true, "ef2060b0714d6729fe8d66c6524c6a431ad9733d15524ef4e2d44fd243cd53c9"), looks := false }, kinds := [], alts := [], laidByText := true, laidKinds := [.data], laidTests := true, laidLooks := .later }
def ModnRemaindersCardSaid : Prop := Claim7.holds Tryz.pinned (.plain (OpenSpec.ofChange modnRemaindersSpec)) modnRemaindersCard

/-- THE TIED CARD OF 'zigguratlaw22.ModnSigneds'. -/
def modnSignedsCard : Claim7 := { stood := { row := modnSignedsRow, standIns := [], harness := (true, "ef2060b0714d6729fe8d66c6524c6a431ad9733d15524ef4e2d44fd243cd53c9"), looks := false }, kinds := [], alts := [], laidByText := true, laidKinds := [.data], laidTests := true, laidLooks := .later }
def ModnSignedsCardSaid : Prop := Claim7.holds Tryz.pinned (.plain (OpenSpec.ofChange modnSignedsSpec)) modnSignedsCard

/-- THE TIED CARD OF 'zigguratlaw22.ModnBack'. -/
def modnBackCard : Claim7 := { stood := { row := modnBackRow, standIns := [], harness := (true, "ef2060b0714d6729fe8d66c6524c6a431ad9733d15524ef4e2d44fd243cd53c9"), looks := false }, kinds := [], alts := [], laidByText := true, laidKinds := [.data], laidTests := true, laidLooks := .later }
def ModnBackCardSaid : Prop := Claim7.holds Tryz.pinned (.plain (OpenSpec.ofChange modnBackSpec)) modnBackCard

/-- THE SECOND FORM's CARD OF 'zigguratlaw21.HgcdSteps'. -/
def hgcdStepsUptoCard : Claim7 := { stood := { row := hgcdStepsUptoRow, standIns := [], harness := (true, "ef2060b0714d6729fe8d66c6524c6a431ad9733d15524ef4e2d44fd243cd53c9"), looks := false }, kinds := [], alts := [], laidByText := true, laidKinds := [.data], laidTests := true, laidLooks := .later }
def HgcdStepsUptoCardSaid : Prop := Claim7.holds Tryz.pinned (.plain (OpenSpec.upto hgcdStepsSpec)) hgcdStepsUptoCard

/-- THE SECOND FORM's CARD OF 'zigguratlaw21.HgcdXgcds'. -/
def hgcdXgcdsUptoCard : Claim7 := { stood := { row := hgcdXgcdsUptoRow, standIns := [], harness := (true, "ef2060b0714d6729fe8d66c6524c6a431ad9733d15524ef4e2d44fd243cd53c9"), looks := false }, kinds := [], alts := [], laidByText := true, laidKinds := [.data], laidTests := true, laidLooks := .later }
def HgcdXgcdsUptoCardSaid : Prop := Claim7.holds Tryz.pinned (.plain (OpenSpec.upto hgcdXgcdsSpec)) hgcdXgcdsUptoCard

/-- THE SECOND FORM's CARD OF 'zigguratlaw21.HgcdTables'. -/
def hgcdTablesUptoCard : Claim7 := { stood := { row := hgcdTablesUptoRow, standIns := [], harness := (true, "ef2060b0714d6729fe8d66c6524c6a431ad9733d15524ef4e2d44fd243cd53c9"), looks := false }, kinds := [], alts := [], laidByText := true, laidKinds := [.data], laidTests := true, laidLooks := .later }
def HgcdTablesUptoCardSaid : Prop := Claim7.holds Tryz.pinned (.plain (OpenSpec.upto hgcdTablesSpec)) hgcdTablesUptoCard

/-- THE SECOND FORM's CARD OF 'zigguratlaw21.HgcdHalves'. -/
def hgcdHalvesUptoCard : Claim7 := { stood := { row := hgcdHalvesUptoRow, standIns := [], harness := (true, "ef2060b0714d6729fe8d66c6524c6a431ad9733d15524ef4e2d44fd243cd53c9"), looks := false }, kinds := [], alts := [], laidByText := true, laidKinds := [.data], laidTests := true, laidLooks := .later }
def HgcdHalvesUptoCardSaid : Prop := Claim7.holds Tryz.pinned (.plain (OpenSpec.upto hgcdHalvesSpec)) hgcdHalvesUptoCard

/-- THE SECOND FORM's CARD OF 'zigguratlaw20.GcdTwos'. -/
def gcdTwosUptoCard : Claim7 := { stood := { row := gcdTwosUptoRow, standIns := [], harness := (true, "ef2060b0714d6729fe8d66c6524c6a431ad9733d15524ef4e2d44fd243cd53c9"), looks := false }, kinds := [], alts := [], laidByText := true, laidKinds := [.data], laidTests := true, laidLooks := .later }
def GcdTwosUptoCardSaid : Prop := Claim7.holds Tryz.pinned (.plain (OpenSpec.upto gcdTwosSpec)) gcdTwosUptoCard

/-- THE SECOND FORM's CARD OF 'zigguratlaw20.GcdCoprimes'. -/
def gcdCoprimesUptoCard : Claim7 := { stood := { row := gcdCoprimesUptoRow, standIns := [], harness := (true, "ef2060b0714d6729fe8d66c6524c6a431ad9733d15524ef4e2d44fd243cd53c9"), looks := false }, kinds := [], alts := [], laidByText := true, laidKinds := [.data], laidTests := true, laidLooks := .later }
def GcdCoprimesUptoCardSaid : Prop := Claim7.holds Tryz.pinned (.plain (OpenSpec.upto gcdCoprimesSpec)) gcdCoprimesUptoCard

/-- THE SECOND FORM's CARD OF 'zigguratlaw20.GcdSteps'. -/
def gcdStepsUptoCard : Claim7 := { stood := { row := gcdStepsUptoRow, standIns := [], harness := (true, "ef2060b0714d6729fe8d66c6524c6a431ad9733d15524ef4e2d44fd243cd53c9"), looks := false }, kinds := [], alts := [], laidByText := true, laidKinds := [.data], laidTests := true, laidLooks := .later }
def GcdStepsUptoCardSaid : Prop := Claim7.holds Tryz.pinned (.plain (OpenSpec.upto gcdStepsSpec)) gcdStepsUptoCard

/-- THE SECOND FORM's CARD OF 'zigguratlaw21.HgcdTimes'. -/
def hgcdTimesUptoCard : Claim7 := { stood := { row := hgcdTimesUptoRow, standIns := [], harness := (true, "ef2060b0714d6729fe8d66c6524c6a431ad9733d15524ef4e2d44fd243cd53c9"), looks := false }, kinds := [], alts := [], laidByText := true, laidKinds := [.data], laidTests := true, laidLooks := .later }
def HgcdTimesUptoCardSaid : Prop := Claim7.holds Tryz.pinned (.plain (OpenSpec.upto hgcdTimesSpec)) hgcdTimesUptoCard

/-- THE SECOND FORM's CARD OF 'zigguratlaw20.GcdAlls'. -/
def gcdAllsUptoCard : Claim7 := { stood := { row := gcdAllsUptoRow, standIns := [], harness := (true, "ef2060b0714d6729fe8d66c6524c6a431ad9733d15524ef4e2d44fd243cd53c9"), looks := false }, kinds := [], alts := [], laidByText := true, laidKinds := [.data], laidTests := true, laidLooks := .later }
def GcdAllsUptoCardSaid : Prop := Claim7.holds Tryz.pinned (.plain (OpenSpec.upto gcdAllsSpec)) gcdAllsUptoCard

/-- THE SECOND FORM's CARD OF 'zigguratlaw20.GcdTables'. -/
def gcdTablesUptoCard : Claim7 := { stood := { row := gcdTablesUptoRow, standIns := [], harness := (true, "ef2060b0714d6729fe8d66c6524c6a431ad9733d15524ef4e2d44fd243cd53c9"), looks := false }, kinds := [], alts := [], laidByText := true, laidKinds := [.data], laidTests := true, laidLooks := .later }
def GcdTablesUptoCardSaid : Prop := Claim7.holds Tryz.pinned (.plain (OpenSpec.upto gcdTablesSpec)) gcdTablesUptoCard

/-- THE SECOND FORM's CARD OF 'zigguratlaw20.GcdLaws'. -/
def gcdLawsUptoCard : Claim7 := { stood := { row := gcdLawsUptoRow, standIns := [], harness := (true, "ef2060b0714d6729fe8d66c6524c6a431ad9733d15524ef4e2d44fd243cd53c9"), looks := false }, kinds := [], alts := [], laidByText := true, laidKinds := [.data], laidTests := true, laidLooks := .later }
def GcdLawsUptoCardSaid : Prop := Claim7.holds Tryz.pinned (.plain (OpenSpec.upto gcdLawsSpec)) gcdLawsUptoCard

/-- THE SECOND FORM's CARD OF 'zigguratlaw21.HgcdBezout'. -/
def hgcdBezoutUptoCard : Claim7 := { stood := { row := hgcdBezoutUptoRow, standIns := [], harness := (true, "ef2060b0714d6729fe8d66c6524c6a431ad9733d15524ef4e2d44fd243cd53c9"), looks := false }, kinds := [], alts := [], laidByText := true, laidKinds := [.data], laidTests := true, laidLooks := .later }
def HgcdBezoutUptoCardSaid : Prop := Claim7.holds Tryz.pinned (.plain (OpenSpec.upto hgcdBezoutSpec)) hgcdBezoutUptoCard

/-- THE SECOND FORM's CARD OF 'zigguratlaw22.ModnInverses'. -/
def modnInversesUptoCard : Claim7 := { stood := { row := modnInversesUptoRow, standIns := [], harness := (true, "ef2060b0714d6729fe8d66c6524c6a431ad9733d15524ef4e2d44fd243cd53c9"), looks := false }, kinds := [], alts := [], laidByText := true, laidKinds := [.data], laidTests := true, laidLooks := .later }
def ModnInversesUptoCardSaid : Prop := Claim7.holds Tryz.pinned (.plain (OpenSpec.upto modnInversesSpec)) modnInversesUptoCard

/-- THE SECOND FORM's CARD OF 'zigguratlaw22.ModnResidues'. -/
def modnResiduesUptoCard : Claim7 := { stood := { row := modnResiduesUptoRow, standIns := [], harness := (true, "ef2060b0714d6729fe8d66c6524c6a431ad9733d15524ef4e2d44fd243cd53c9"), looks := false }, kinds := [], alts := [], laidByText := true, laidKinds := [.data], laidTests := true, laidLooks := .later }
def ModnResiduesUptoCardSaid : Prop := Claim7.holds Tryz.pinned (.plain (OpenSpec.upto modnResiduesSpec)) modnResiduesUptoCard

/-- THE SECOND FORM's CARD OF 'zigguratlaw22.ModnCrts'. -/
def modnCrtsUptoCard : Claim7 := { stood := { row := modnCrtsUptoRow, standIns := [], harness := (true, "ef2060b0714d6729fe8d66c6524c6a431ad9733d15524ef4e2d44fd243cd53c9"), looks := false }, kinds := [], alts := [], laidByText := true, laidKinds := [.data], laidTests := true, laidLooks := .later }
def ModnCrtsUptoCardSaid : Prop := Claim7.holds Tryz.pinned (.plain (OpenSpec.upto modnCrtsSpec)) modnCrtsUptoCard

/-- THE SECOND FORM's CARD OF 'zigguratlaw22.ModnRemainders'. -/
def modnRemaindersUptoCard : Claim7 := { stood := { row := modnRemaindersUptoRow, standIns := [], harness := (true, "ef2060b0714d6729fe8d66c6524c6a431ad9733d15524ef4e2d44fd243cd53c9"), looks := false }, kinds := [], alts := [], laidByText := true, laidKinds := [.data], laidTests := true, laidLooks := .later }
def ModnRemaindersUptoCardSaid : Prop := Claim7.holds Tryz.pinned (.plain (OpenSpec.upto modnRemaindersSpec)) modnRemaindersUptoCard

/-- THE SECOND FORM's CARD OF 'zigguratlaw22.ModnSigneds'. -/
def modnSignedsUptoCard : Claim7 := { stood := { row := modnSignedsUptoRow, standIns := [], harness := (true, "ef2060b0714d6729fe8d66c6524c6a431ad9733d15524ef4e2d44fd243cd53c9"), looks := false }, kinds := [], alts := [], laidByText := true, laidKinds := [.data], laidTests := true, laidLooks := .later }
def ModnSignedsUptoCardSaid : Prop := Claim7.holds Tryz.pinned (.plain (OpenSpec.upto modnSignedsSpec)) modnSignedsUptoCard

/-- THE SECOND FORM's CARD OF 'zigguratlaw22.ModnBack'. -/
def modnBackUptoCard : Claim7 := { stood := { row := modnBackUptoRow, standIns := [], harness := (true, "ef2060b0714d6729fe8d66c6524c6a431ad9733d15524ef4e2d44fd243cd53c9"), looks := false }, kinds := [], alts := [], laidByText := true, laidKinds := [.data], laidTests := true, laidLooks := .later }
def ModnBackUptoCardSaid : Prop := Claim7.holds Tryz.pinned (.plain (OpenSpec.upto modnBackSpec)) modnBackUptoCard
end Rows
end Go.Proofs.YticehedkalheiaaGreatDoor
