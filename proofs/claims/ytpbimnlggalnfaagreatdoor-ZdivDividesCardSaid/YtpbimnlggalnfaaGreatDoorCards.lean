/-
  DERIVED. GIVEN WITH THE SEED: THE CARDS: each row of YtpbimnlggalnfaaGreatDoorRows.lean that lists a variable, with what it lists TIED to the program's text (the seventh form; the later family's looks); each row that meets fmt, with fmt's text TOLD by the authors' own Lean function (tested against real Go, not proved from fmt's source: count such statements apart). THE CARD IS WHAT COUNTS. Prove the row's statement (the work); the ties are given (YtpbimnlggalnfaaGreatDoorTie.lean); close each card by the builder's one call (the guide's Derived/Test/ToyasCard.lean, 'card_holds'). Laid BY PROGRAM, IN A SANDBOX (cutbox-door.mjs). By AI agents, Wed Nov 11 2026. No macro, syntax, notation, axiom, sorry.
-/
import Derived.Test.YtpbimnlggalnfaaGreatDoorRows
import GoSem.ClaimSeven
namespace Go.Proofs.YtpbimnlggalnfaaGreatDoor
namespace Rows

/-- THE TIED CARD OF 'zigguratlaw30.ZdivContents'. -/
def zdivContentsCard : Claim7 := { stood := { row := zdivContentsRow, standIns := [], harness := (true, "a76e77b7cd8bfd81a095ef52eca1489b90bbf904bfc050450dee3c4e11bebffd"), looks := false }, kinds := [], alts := [], laidByText := true, laidKinds := [.data], laidTests := true, laidLooks := .later }
def ZdivContentsCardSaid : Prop := Claim7.holds Tryz.pinned (.plain (OpenSpec.ofChange zdivContentsSpec)) zdivContentsCard

/-- THE TIED CARD OF 'zigguratlaw30.ZdivInterpolants'. -/
def zdivInterpolantsCard : Claim7 := { stood := { row := zdivInterpolantsRow, standIns := [], harness := (true, "a76e77b7cd8bfd81a095ef52eca1489b90bbf904bfc050450dee3c4e11bebffd"), looks := false }, kinds := [], alts := [], laidByText := true, laidKinds := [.data], laidTests := true, laidLooks := .later }
def ZdivInterpolantsCardSaid : Prop := Claim7.holds Tryz.pinned (.plain (OpenSpec.ofChange zdivInterpolantsSpec)) zdivInterpolantsCard

/-- THE TIED CARD OF 'zigguratlaw30.ZdivPseudos'. -/
def zdivPseudosCard : Claim7 := { stood := { row := zdivPseudosRow, standIns := [], harness := (true, "a76e77b7cd8bfd81a095ef52eca1489b90bbf904bfc050450dee3c4e11bebffd"), looks := false }, kinds := [], alts := [], laidByText := true, laidKinds := [.data], laidTests := true, laidLooks := .later }
def ZdivPseudosCardSaid : Prop := Claim7.holds Tryz.pinned (.plain (OpenSpec.ofChange zdivPseudosSpec)) zdivPseudosCard

/-- THE TIED CARD OF 'zigguratlaw30.ZdivPseudoBack'. -/
def zdivPseudoBackCard : Claim7 := { stood := { row := zdivPseudoBackRow, standIns := [], harness := (true, "a76e77b7cd8bfd81a095ef52eca1489b90bbf904bfc050450dee3c4e11bebffd"), looks := false }, kinds := [], alts := [], laidByText := true, laidKinds := [.data], laidTests := true, laidLooks := .later }
def ZdivPseudoBackCardSaid : Prop := Claim7.holds Tryz.pinned (.plain (OpenSpec.ofChange zdivPseudoBackSpec)) zdivPseudoBackCard

/-- THE TIED CARD OF 'zigguratlaw30.ZdivExacts'. -/
def zdivExactsCard : Claim7 := { stood := { row := zdivExactsRow, standIns := [], harness := (true, "a76e77b7cd8bfd81a095ef52eca1489b90bbf904bfc050450dee3c4e11bebffd"), looks := false }, kinds := [], alts := [], laidByText := true, laidKinds := [.data], laidTests := true, laidLooks := .later }
def ZdivExactsCardSaid : Prop := Claim7.holds Tryz.pinned (.plain (OpenSpec.ofChange zdivExactsSpec)) zdivExactsCard

/-- THE TIED CARD OF 'zigguratlaw30.ZdivCommons'. -/
def zdivCommonsCard : Claim7 := { stood := { row := zdivCommonsRow, standIns := [], harness := (true, "a76e77b7cd8bfd81a095ef52eca1489b90bbf904bfc050450dee3c4e11bebffd"), looks := false }, kinds := [], alts := [], laidByText := true, laidKinds := [.data], laidTests := true, laidLooks := .later }
def ZdivCommonsCardSaid : Prop := Claim7.holds Tryz.pinned (.plain (OpenSpec.ofChange zdivCommonsSpec)) zdivCommonsCard

/-- THE TIED CARD OF 'zigguratlaw30.ZdivDivides'. -/
def zdivDividesCard : Claim7 := { stood := { row := zdivDividesRow, standIns := [], harness := (true, "a76e77b7cd8bfd81a095ef52eca1489b90bbf904bfc050450dee3c4e11bebffd"), looks := false }, kinds := [], alts := [], laidByText := true, laidKinds := [.data], laidTests := true, laidLooks := .later }
def ZdivDividesCardSaid : Prop := Claim7.holds Tryz.pinned (.plain (OpenSpec.ofChange zdivDividesSpec)) zdivDividesCard

/-- THE SECOND FORM's CARD OF 'zigguratlaw30.ZdivContents'. -/
def zdivContentsUptoCard : Claim7 := { stood := { row := zdivContentsUptoRow, standIns := [], harness := (true, "a76e77b7cd8bfd81a095ef52eca1489b90bbf904bfc050450dee3c4e11bebffd"), looks := false }, kinds := [], alts := [], laidByText := true, laidKinds := [.data], laidTests := true, laidLooks := .later }
def ZdivContentsUptoCardSaid : Prop := Claim7.holds Tryz.pinned (.plain (OpenSpec.upto zdivContentsSpec)) zdivContentsUptoCard

/-- THE SECOND FORM's CARD OF 'zigguratlaw30.ZdivInterpolants'. -/
def zdivInterpolantsUptoCard : Claim7 := { stood := { row := zdivInterpolantsUptoRow, standIns := [], harness := (true, "a76e77b7cd8bfd81a095ef52eca1489b90bbf904bfc050450dee3c4e11bebffd"), looks := false }, kinds := [], alts := [], laidByText := true, laidKinds := [.data], laidTests := true, laidLooks := .later }
def ZdivInterpolantsUptoCardSaid : Prop := Claim7.holds Tryz.pinned (.plain (OpenSpec.upto zdivInterpolantsSpec)) zdivInterpolantsUptoCard

/-- THE SECOND FORM's CARD OF 'zigguratlaw30.ZdivPseudos'. -/
def zdivPseudosUptoCard : Claim7 := { stood := { row := zdivPseudosUptoRow, standIns := [], harness := (true, "a76e77b7cd8bfd81a095ef52eca1489b90bbf904bfc050450dee3c4e11bebffd"), looks := false }, kinds := [], alts := [], laidByText := true, laidKinds := [.data], laidTests := true, laidLooks := .later }
def ZdivPseudosUptoCardSaid : Prop := Claim7.holds Tryz.pinned (.plain (OpenSpec.upto zdivPseudosSpec)) zdivPseudosUptoCard

/-- THE SECOND FORM's CARD OF 'zigguratlaw30.ZdivPseudoBack'. -/
def zdivPseudoBackUptoCard : Claim7 := { stood := { row := zdivPseudoBackUptoRow, standIns := [], harness := (true, "a76e77b7cd8bfd81a095ef52eca1489b90bbf904bfc050450dee3c4e11bebffd"), looks := false }, kinds := [], alts := [], laidByText := true, laidKinds := [.data], laidTests := true, laidLooks := .later }
def ZdivPseudoBackUptoCardSaid : Prop := Claim7.holds Tryz.pinned (.plain (OpenSpec.upto zdivPseudoBackSpec)) zdivPseudoBackUptoCard

/-- THE SECOND FORM's CARD OF 'zigguratlaw30.ZdivExacts'. -/
def zdivExactsUptoCard : Claim7 := { stood := { row := zdivExactsUptoRow, standIns := [], harness := (true, "a76e77b7cd8bfd81a095ef52eca1489b90bbf904bfc050450dee3c4e11bebffd"), looks := false }, kinds := [], alts := [], laidByText := true, laidKinds := [.data], laidTests := true, laidLooks := .later }
def ZdivExactsUptoCardSaid : Prop := Claim7.holds Tryz.pinned (.plain (OpenSpec.upto zdivExactsSpec)) zdivExactsUptoCard

/-- THE SECOND FORM's CARD OF 'zigguratlaw30.ZdivCommons'. -/
def zdivCommonsUptoCard : Claim7 := { stood := { row := zdivCommonsUptoRow, standIns := [], harness := (true, "a76e77b7cd8bfd81a095ef52eca1489b90bbf904bfc050450dee3c4e11bebffd"), looks := false }, kinds := [], alts := [], laidByText := true, laidKinds := [.data], laidTests := true, laidLooks := .later }
def ZdivCommonsUptoCardSaid : Prop := Claim7.holds Tryz.pinned (.plain (OpenSpec.upto zdivCommonsSpec)) zdivCommonsUptoCard

/-- THE SECOND FORM's CARD OF 'zigguratlaw30.ZdivDivides'. -/
def zdivDividesUptoCard : Claim7 := { stood := { row := zdivDividesUptoRow, standIns := [], harness := (true, "a76e77b7cd8bfd81a095ef52eca1489b90bbf904bfc050450dee3c4e11bebffd"), looks := false }, kinds := [], alts := [], laidByText := true, laidKinds := [.data], laidTests := true, laidLooks := .later }
def ZdivDividesUptoCardSaid : Prop := Claim7.holds Tryz.pinned (.plain (OpenSpec.upto zdivDividesSpec)) zdivDividesUptoCard
end Rows
end Go.Proofs.YtpbimnlggalnfaaGreatDoor
