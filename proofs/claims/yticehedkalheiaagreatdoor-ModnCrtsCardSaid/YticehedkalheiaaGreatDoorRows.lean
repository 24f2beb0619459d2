/-
  NARROWER THAN 'FOR EVERY INPUT', by the rows' own cells (each row's printed sentence says how): HgcdSteps: laid · HgcdXgcds: laid · HgcdTables: laid · HgcdHalves: laid · GcdTwos: laid · GcdCoprimes: laid · GcdSteps: laid · HgcdTimes: laid · GcdAlls: laid · GcdTables: laid · GcdLaws: laid · HgcdBezout: laid · ModnInverses: laid · ModnResidues: laid · ModnCrts: laid · ModnRemainders: laid · ModnSigneds: laid · ModnBack: laid.
  DERIVED. THE GIVEN ROWS OF THIS SEAT. 18 by the template 'for every input the law returns true; each argument reads behind the call as it read before'; 0 by the template 'total and deterministic' (their statements: YticehedkalheiaaGreatDoorTotals.lean).
  GIVEN WITH THE SEED: the statements are not yours to turn. If you find one false, say at which input.
  Laid BY PROGRAM, IN A SANDBOX (cutbox-rows.mjs): the forced cells as the released guide's own fill.sh prints them over the translation bff21d5bc0c9c14a… (all of the seat's roots in one cut). By AI agents, Wed Nov 11 2026. No macro, syntax, notation, axiom, sorry.
-/
import Derived.Test.YticehedkalheiaaGreatDoorChecked
import GoSem.Claim
import GoSem.ClaimJoined
import GoSem.ClaimMapViews
import Derived.JoinedTies
import Derived.KernelRfl
namespace Go.Proofs.YticehedkalheiaaGreatDoor
/- THE CELL 'sum', in the pinned program and in every row, IS THE sha256 OF THE DUMP (.gsa) THAT YticehedkalheiaaGreatDoorProg.lean LOADS. Nothing in Lean hashes anything: it is a label: what it is worth is what the hold of that sum in a sandbox is worth. -/
noncomputable def Tryz.pinned : Pinned := { name := "yticehedkalheiaagreatdoor", sum := "bff21d5bc0c9c14a21b508d2b41a39311b3c0197ec5e95eeb1f6a97563ff225e", checked := Tryz.checked }
namespace Rows
def none {H : Type} : Left H := { results := [], args := [] }

/- WHAT THE LISTED PACKAGE-LEVEL VARIABLES READ AS WHEN THE CALL BEGINS. Each datum BY PROGRAM (the guide's laid-datum.mjs) off the statement by which the dump's own 'gosem.cut.vars' lays the variable. In a bare row this is a premise. The card (YticehedkalheiaaGreatDoorCards.lean) ties it to the program's text. -/
def laid_math_bits_deBruijn64tab {H : Type} : DataW H := .agg [.lit (.int .u8 0), .lit (.int .u8 1), .lit (.int .u8 56), .lit (.int .u8 2), .lit (.int .u8 57), .lit (.int .u8 49), .lit (.int .u8 28), .lit (.int .u8 3), .lit (.int .u8 61), .lit (.int .u8 58), .lit (.int .u8 42), .lit (.int .u8 50), .lit (.int .u8 38), .lit (.int .u8 29), .lit (.int .u8 17), .lit (.int .u8 4), .lit (.int .u8 62), .lit (.int .u8 47), .lit (.int .u8 59), .lit (.int .u8 36), .lit (.int .u8 45), .lit (.int .u8 43), .lit (.int .u8 51), .lit (.int .u8 22), .lit (.int .u8 53), .lit (.int .u8 39), .lit (.int .u8 33), .lit (.int .u8 30), .lit (.int .u8 24), .lit (.int .u8 18), .lit (.int .u8 12), .lit (.int .u8 5), .lit (.int .u8 63), .lit (.int .u8 55), .lit (.int .u8 48), .lit (.int .u8 27), .lit (.int .u8 60), .lit (.int .u8 41), .lit (.int .u8 37), .lit (.int .u8 16), .lit (.int .u8 46), .lit (.int .u8 35), .lit (.int .u8 44), .lit (.int .u8 21), .lit (.int .u8 52), .lit (.int .u8 32), .lit (.int .u8 23), .lit (.int .u8 11), .lit (.int .u8 54), .lit (.int .u8 26), .lit (.int .u8 40), .lit (.int .u8 15), .lit (.int .u8 34), .lit (.int .u8 20), .lit (.int .u8 31), .lit (.int .u8 10), .lit (.int .u8 25), .lit (.int .u8 14), .lit (.int .u8 19), .lit (.int .u8 9), .lit (.int .u8 13), .lit (.int .u8 8), .lit (.int .u8 7), .lit (.int .u8 6)]

/-- 'zigguratlaw21.HgcdSteps': WHATEVER THE INPUT: true; the input reads as it did. -/
def hgcdStepsSpec : ChangeSpec := { name := "hgcdSteps", fn := fun _ => fun
  | [d1, d2, d3, d4] => { results := [.lit (.bool true)], args := [d1, d2, d3, d4] }
  | _ => none }
def hgcdStepsRow : OpenClaim := { program := "yticehedkalheiaagreatdoor", sum := "bff21d5bc0c9c14a21b508d2b41a39311b3c0197ec5e95eeb1f6a97563ff225e", func := "ziggurat/zigguratlaw21.HgcdSteps", spec := "hgcdSteps", inPlace := ["math/bits.Add64", "math/bits.Sub64"], unfollowed := true, recurses := true, named := ["math/bits.divideError", "math/bits.overflowError", "math/bits.deBruijn64tab"], apart := false, laid := [("math/bits.deBruijn64tab", laid_math_bits_deBruijn64tab)] }
def HgcdStepsSaid : Prop := hgcdStepsRow.holds Tryz.pinned (OpenSpec.ofChange hgcdStepsSpec)

/-- ITS FALSE NEIGHBOUR: 'it returns false'. Refute it at one input. -/
def hgcdStepsWrong : ChangeSpec := { name := "hgcdSteps", fn := fun _ => fun
  | [d1, d2, d3, d4] => { results := [.lit (.bool false)], args := [d1, d2, d3, d4] }
  | _ => none }
def HgcdStepsWrongFalsely : Prop := hgcdStepsRow.holds Tryz.pinned (OpenSpec.ofChange hgcdStepsWrong)

/-- 'zigguratlaw21.HgcdXgcds': WHATEVER THE INPUT: true; the input reads as it did. -/
def hgcdXgcdsSpec : ChangeSpec := { name := "hgcdXgcds", fn := fun _ => fun
  | [d1, d2, d3] => { results := [.lit (.bool true)], args := [d1, d2, d3] }
  | _ => none }
def hgcdXgcdsRow : OpenClaim := { program := "yticehedkalheiaagreatdoor", sum := "bff21d5bc0c9c14a21b508d2b41a39311b3c0197ec5e95eeb1f6a97563ff225e", func := "ziggurat/zigguratlaw21.HgcdXgcds", spec := "hgcdXgcds", inPlace := ["math/bits.Add64", "math/bits.Sub64"], unfollowed := true, recurses := true, named := ["math/bits.divideError", "math/bits.overflowError", "math/bits.deBruijn64tab"], apart := false, laid := [("math/bits.deBruijn64tab", laid_math_bits_deBruijn64tab)] }
def HgcdXgcdsSaid : Prop := hgcdXgcdsRow.holds Tryz.pinned (OpenSpec.ofChange hgcdXgcdsSpec)

/-- ITS FALSE NEIGHBOUR: 'it returns false'. Refute it at one input. -/
def hgcdXgcdsWrong : ChangeSpec := { name := "hgcdXgcds", fn := fun _ => fun
  | [d1, d2, d3] => { results := [.lit (.bool false)], args := [d1, d2, d3] }
  | _ => none }
def HgcdXgcdsWrongFalsely : Prop := hgcdXgcdsRow.holds Tryz.pinned (OpenSpec.ofChange hgcdXgcdsWrong)

/-- 'zigguratlaw21.HgcdTables': WHATEVER THE INPUT: true; the input reads as it did. -/
def hgcdTablesSpec : ChangeSpec := { name := "hgcdTables", fn := fun _ => fun
  | [d1, d2, d3, d4, d5] => { results := [.lit (.bool true)], args := [d1, d2, d3, d4, d5] }
  | _ => none }
def hgcdTablesRow : OpenClaim := { program := "yticehedkalheiaagreatdoor", sum := "bff21d5bc0c9c14a21b508d2b41a39311b3c0197ec5e95eeb1f6a97563ff225e", func := "ziggurat/zigguratlaw21.HgcdTables", spec := "hgcdTables", inPlace := ["math/bits.Add64", "math/bits.Sub64"], unfollowed := true, recurses := true, named := ["math/bits.divideError", "math/bits.overflowError", "math/bits.deBruijn64tab"], apart := false, laid := [("math/bits.deBruijn64tab", laid_math_bits_deBruijn64tab)] }
def HgcdTablesSaid : Prop := hgcdTablesRow.holds Tryz.pinned (OpenSpec.ofChange hgcdTablesSpec)

/-- ITS FALSE NEIGHBOUR: 'it returns false'. Refute it at one input. -/
def hgcdTablesWrong : ChangeSpec := { name := "hgcdTables", fn := fun _ => fun
  | [d1, d2, d3, d4, d5] => { results := [.lit (.bool false)], args := [d1, d2, d3, d4, d5] }
  | _ => none }
def HgcdTablesWrongFalsely : Prop := hgcdTablesRow.holds Tryz.pinned (OpenSpec.ofChange hgcdTablesWrong)

/-- 'zigguratlaw21.HgcdHalves': WHATEVER THE INPUT: true; the input reads as it did. -/
def hgcdHalvesSpec : ChangeSpec := { name := "hgcdHalves", fn := fun _ => fun
  | [d1, d2, d3] => { results := [.lit (.bool true)], args := [d1, d2, d3] }
  | _ => none }
def hgcdHalvesRow : OpenClaim := { program := "yticehedkalheiaagreatdoor", sum := "bff21d5bc0c9c14a21b508d2b41a39311b3c0197ec5e95eeb1f6a97563ff225e", func := "ziggurat/zigguratlaw21.HgcdHalves", spec := "hgcdHalves", inPlace := ["math/bits.Add64", "math/bits.Sub64"], unfollowed := true, recurses := true, named := ["math/bits.divideError", "math/bits.overflowError", "math/bits.deBruijn64tab"], apart := false, laid := [("math/bits.deBruijn64tab", laid_math_bits_deBruijn64tab)] }
def HgcdHalvesSaid : Prop := hgcdHalvesRow.holds Tryz.pinned (OpenSpec.ofChange hgcdHalvesSpec)

/-- ITS FALSE NEIGHBOUR: 'it returns false'. Refute it at one input. -/
def hgcdHalvesWrong : ChangeSpec := { name := "hgcdHalves", fn := fun _ => fun
  | [d1, d2, d3] => { results := [.lit (.bool false)], args := [d1, d2, d3] }
  | _ => none }
def HgcdHalvesWrongFalsely : Prop := hgcdHalvesRow.holds Tryz.pinned (OpenSpec.ofChange hgcdHalvesWrong)

/-- 'zigguratlaw20.GcdTwos': WHATEVER THE INPUT: true; the input reads as it did. -/
def gcdTwosSpec : ChangeSpec := { name := "gcdTwos", fn := fun _ => fun
  | [d1, d2, d3, d4] => { results := [.lit (.bool true)], args := [d1, d2, d3, d4] }
  | _ => none }
def gcdTwosRow : OpenClaim := { program := "yticehedkalheiaagreatdoor", sum := "bff21d5bc0c9c14a21b508d2b41a39311b3c0197ec5e95eeb1f6a97563ff225e", func := "ziggurat/zigguratlaw20.GcdTwos", spec := "gcdTwos", inPlace := ["math/bits.Add64", "math/bits.Sub64"], unfollowed := true, recurses := true, named := ["math/bits.divideError", "math/bits.overflowError", "math/bits.deBruijn64tab"], apart := false, laid := [("math/bits.deBruijn64tab", laid_math_bits_deBruijn64tab)] }
def GcdTwosSaid : Prop := gcdTwosRow.holds Tryz.pinned (OpenSpec.ofChange gcdTwosSpec)

/-- ITS FALSE NEIGHBOUR: 'it returns false'. Refute it at one input. -/
def gcdTwosWrong : ChangeSpec := { name := "gcdTwos", fn := fun _ => fun
  | [d1, d2, d3, d4] => { results := [.lit (.bool false)], args := [d1, d2, d3, d4] }
  | _ => none }
def GcdTwosWrongFalsely : Prop := gcdTwosRow.holds Tryz.pinned (OpenSpec.ofChange gcdTwosWrong)

/-- 'zigguratlaw20.GcdCoprimes': WHATEVER THE INPUT: true; the input reads as it did. -/
def gcdCoprimesSpec : ChangeSpec := { name := "gcdCoprimes", fn := fun _ => fun
  | [d1, d2] => { results := [.lit (.bool true)], args := [d1, d2] }
  | _ => none }
def gcdCoprimesRow : OpenClaim := { program := "yticehedkalheiaagreatdoor", sum := "bff21d5bc0c9c14a21b508d2b41a39311b3c0197ec5e95eeb1f6a97563ff225e", func := "ziggurat/zigguratlaw20.GcdCoprimes", spec := "gcdCoprimes", inPlace := ["math/bits.Add64", "math/bits.Sub64"], unfollowed := true, recurses := true, named := ["math/bits.divideError", "math/bits.overflowError", "math/bits.deBruijn64tab"], apart := false, laid := [("math/bits.deBruijn64tab", laid_math_bits_deBruijn64tab)] }
def GcdCoprimesSaid : Prop := gcdCoprimesRow.holds Tryz.pinned (OpenSpec.ofChange gcdCoprimesSpec)

/-- ITS FALSE NEIGHBOUR: 'it returns false'. Refute it at one input. -/
def gcdCoprimesWrong : ChangeSpec := { name := "gcdCoprimes", fn := fun _ => fun
  | [d1, d2] => { results := [.lit (.bool false)], args := [d1, d2] }
  | _ => none }
def GcdCoprimesWrongFalsely : Prop := gcdCoprimesRow.holds Tryz.pinned (OpenSpec.ofChange gcdCoprimesWrong)

/-- 'zigguratlaw20.GcdSteps': WHATEVER THE INPUT: true; the input reads as it did. -/
def gcdStepsSpec : ChangeSpec := { name := "gcdSteps", fn := fun _ => fun
  | [d1, d2, d3] => { results := [.lit (.bool true)], args := [d1, d2, d3] }
  | _ => none }
def gcdStepsRow : OpenClaim := { program := "yticehedkalheiaagreatdoor", sum := "bff21d5bc0c9c14a21b508d2b41a39311b3c0197ec5e95eeb1f6a97563ff225e", func := "ziggurat/zigguratlaw20.GcdSteps", spec := "gcdSteps", inPlace := ["math/bits.Add64", "math/bits.Sub64"], unfollowed := true, recurses := true, named := ["math/bits.divideError", "math/bits.overflowError", "math/bits.deBruijn64tab"], apart := false, laid := [("math/bits.deBruijn64tab", laid_math_bits_deBruijn64tab)] }
def GcdStepsSaid : Prop := gcdStepsRow.holds Tryz.pinned (OpenSpec.ofChange gcdStepsSpec)

/-- ITS FALSE NEIGHBOUR: 'it returns false'. Refute it at one input. -/
def gcdStepsWrong : ChangeSpec := { name := "gcdSteps", fn := fun _ => fun
  | [d1, d2, d3] => { results := [.lit (.bool false)], args := [d1, d2, d3] }
  | _ => none }
def GcdStepsWrongFalsely : Prop := gcdStepsRow.holds Tryz.pinned (OpenSpec.ofChange gcdStepsWrong)

/-- 'zigguratlaw21.HgcdTimes': WHATEVER THE INPUT: true; the input reads as it did. -/
def hgcdTimesSpec : ChangeSpec := { name := "hgcdTimes", fn := fun _ => fun
  | [d1, d2, d3, d4] => { results := [.lit (.bool true)], args := [d1, d2, d3, d4] }
  | _ => none }
def hgcdTimesRow : OpenClaim := { program := "yticehedkalheiaagreatdoor", sum := "bff21d5bc0c9c14a21b508d2b41a39311b3c0197ec5e95eeb1f6a97563ff225e", func := "ziggurat/zigguratlaw21.HgcdTimes", spec := "hgcdTimes", inPlace := ["math/bits.Add64", "math/bits.Sub64"], unfollowed := true, recurses := true, named := ["math/bits.divideError", "math/bits.overflowError", "math/bits.deBruijn64tab"], apart := false, laid := [("math/bits.deBruijn64tab", laid_math_bits_deBruijn64tab)] }
def HgcdTimesSaid : Prop := hgcdTimesRow.holds Tryz.pinned (OpenSpec.ofChange hgcdTimesSpec)

/-- ITS FALSE NEIGHBOUR: 'it returns false'. Refute it at one input. -/
def hgcdTimesWrong : ChangeSpec := { name := "hgcdTimes", fn := fun _ => fun
  | [d1, d2, d3, d4] => { results := [.lit (.bool false)], args := [d1, d2, d3, d4] }
  | _ => none }
def HgcdTimesWrongFalsely : Prop := hgcdTimesRow.holds Tryz.pinned (OpenSpec.ofChange hgcdTimesWrong)

/-- 'zigguratlaw20.GcdAlls': WHATEVER THE INPUT: true; the input reads as it did. -/
def gcdAllsSpec : ChangeSpec := { name := "gcdAlls", fn := fun _ => fun
  | [d1, d2] => { results := [.lit (.bool true)], args := [d1, d2] }
  | _ => none }
def gcdAllsRow : OpenClaim := { program := "yticehedkalheiaagreatdoor", sum := "bff21d5bc0c9c14a21b508d2b41a39311b3c0197ec5e95eeb1f6a97563ff225e", func := "ziggurat/zigguratlaw20.GcdAlls", spec := "gcdAlls", inPlace := ["math/bits.Add64", "math/bits.Sub64"], unfollowed := true, recurses := true, named := ["math/bits.divideError", "math/bits.overflowError", "math/bits.deBruijn64tab"], apart := false, laid := [("math/bits.deBruijn64tab", laid_math_bits_deBruijn64tab)] }
def GcdAllsSaid : Prop := gcdAllsRow.holds Tryz.pinned (OpenSpec.ofChange gcdAllsSpec)

/-- ITS FALSE NEIGHBOUR: 'it returns false'. Refute it at one input. -/
def gcdAllsWrong : ChangeSpec := { name := "gcdAlls", fn := fun _ => fun
  | [d1, d2] => { results := [.lit (.bool false)], args := [d1, d2] }
  | _ => none }
def GcdAllsWrongFalsely : Prop := gcdAllsRow.holds Tryz.pinned (OpenSpec.ofChange gcdAllsWrong)

/-- 'zigguratlaw20.GcdTables': WHATEVER THE INPUT: true; the input reads as it did. -/
def gcdTablesSpec : ChangeSpec := { name := "gcdTables", fn := fun _ => fun
  | [d1, d2, d3, d4, d5] => { results := [.lit (.bool true)], args := [d1, d2, d3, d4, d5] }
  | _ => none }
def gcdTablesRow : OpenClaim := { program := "yticehedkalheiaagreatdoor", sum := "bff21d5bc0c9c14a21b508d2b41a39311b3c0197ec5e95eeb1f6a97563ff225e", func := "ziggurat/zigguratlaw20.GcdTables", spec := "gcdTables", inPlace := ["math/bits.Add64", "math/bits.Sub64"], unfollowed := true, recurses := true, named := ["math/bits.divideError", "math/bits.overflowError", "math/bits.deBruijn64tab"], apart := false, laid := [("math/bits.deBruijn64tab", laid_math_bits_deBruijn64tab)] }
def GcdTablesSaid : Prop := gcdTablesRow.holds Tryz.pinned (OpenSpec.ofChange gcdTablesSpec)

/-- ITS FALSE NEIGHBOUR: 'it returns false'. Refute it at one input. -/
def gcdTablesWrong : ChangeSpec := { name := "gcdTables", fn := fun _ => fun
  | [d1, d2, d3, d4, d5] => { results := [.lit (.bool false)], args := [d1, d2, d3, d4, d5] }
  | _ => none }
def GcdTablesWrongFalsely : Prop := gcdTablesRow.holds Tryz.pinned (OpenSpec.ofChange gcdTablesWrong)

/-- 'zigguratlaw20.GcdLaws': WHATEVER THE INPUT: true; the input reads as it did. -/
def gcdLawsSpec : ChangeSpec := { name := "gcdLaws", fn := fun _ => fun
  | [d1, d2, d3, d4] => { results := [.lit (.bool true)], args := [d1, d2, d3, d4] }
  | _ => none }
def gcdLawsRow : OpenClaim := { program := "yticehedkalheiaagreatdoor", sum := "bff21d5bc0c9c14a21b508d2b41a39311b3c0197ec5e95eeb1f6a97563ff225e", func := "ziggurat/zigguratlaw20.GcdLaws", spec := "gcdLaws", inPlace := ["math/bits.Add64", "math/bits.Sub64"], unfollowed := true, recurses := true, named := ["math/bits.divideError", "math/bits.overflowError", "math/bits.deBruijn64tab"], apart := false, laid := [("math/bits.deBruijn64tab", laid_math_bits_deBruijn64tab)] }
def GcdLawsSaid : Prop := gcdLawsRow.holds Tryz.pinned (OpenSpec.ofChange gcdLawsSpec)

/-- ITS FALSE NEIGHBOUR: 'it returns false'. Refute it at one input. -/
def gcdLawsWrong : ChangeSpec := { name := "gcdLaws", fn := fun _ => fun
  | [d1, d2, d3, d4] => { results := [.lit (.bool false)], args := [d1, d2, d3, d4] }
  | _ => none }
def GcdLawsWrongFalsely : Prop := gcdLawsRow.holds Tryz.pinned (OpenSpec.ofChange gcdLawsWrong)

/-- 'zigguratlaw21.HgcdBezout': WHATEVER THE INPUT: true; the input reads as it did. -/
def hgcdBezoutSpec : ChangeSpec := { name := "hgcdBezout", fn := fun _ => fun
  | [d1, d2, d3, d4] => { results := [.lit (.bool true)], args := [d1, d2, d3, d4] }
  | _ => none }
def hgcdBezoutRow : OpenClaim := { program := "yticehedkalheiaagreatdoor", sum := "bff21d5bc0c9c14a21b508d2b41a39311b3c0197ec5e95eeb1f6a97563ff225e", func := "ziggurat/zigguratlaw21.HgcdBezout", spec := "hgcdBezout", inPlace := ["math/bits.Add64", "math/bits.Sub64"], unfollowed := true, recurses := true, named := ["math/bits.divideError", "math/bits.overflowError", "math/bits.deBruijn64tab"], apart := false, laid := [("math/bits.deBruijn64tab", laid_math_bits_deBruijn64tab)] }
def HgcdBezoutSaid : Prop := hgcdBezoutRow.holds Tryz.pinned (OpenSpec.ofChange hgcdBezoutSpec)

/-- ITS FALSE NEIGHBOUR: 'it returns false'. Refute it at one input. -/
def hgcdBezoutWrong : ChangeSpec := { name := "hgcdBezout", fn := fun _ => fun
  | [d1, d2, d3, d4] => { results := [.lit (.bool false)], args := [d1, d2, d3, d4] }
  | _ => none }
def HgcdBezoutWrongFalsely : Prop := hgcdBezoutRow.holds Tryz.pinned (OpenSpec.ofChange hgcdBezoutWrong)

/-- 'zigguratlaw22.ModnInverses': WHATEVER THE INPUT: true; the input reads as it did. -/
def modnInversesSpec : ChangeSpec := { name := "modnInverses", fn := fun _ => fun
  | [d1, d2, d3] => { results := [.lit (.bool true)], args := [d1, d2, d3] }
  | _ => none }
def modnInversesRow : OpenClaim := { program := "yticehedkalheiaagreatdoor", sum := "bff21d5bc0c9c14a21b508d2b41a39311b3c0197ec5e95eeb1f6a97563ff225e", func := "ziggurat/zigguratlaw22.ModnInverses", spec := "modnInverses", inPlace := ["math/bits.Add64", "math/bits.Sub64"], unfollowed := true, recurses := true, named := ["math/bits.divideError", "math/bits.overflowError", "math/bits.deBruijn64tab"], apart := false, laid := [("math/bits.deBruijn64tab", laid_math_bits_deBruijn64tab)] }
def ModnInversesSaid : Prop := modnInversesRow.holds Tryz.pinned (OpenSpec.ofChange modnInversesSpec)

/-- ITS FALSE NEIGHBOUR: 'it returns false'. Refute it at one input. -/
def modnInversesWrong : ChangeSpec := { name := "modnInverses", fn := fun _ => fun
  | [d1, d2, d3] => { results := [.lit (.bool false)], args := [d1, d2, d3] }
  | _ => none }
def ModnInversesWrongFalsely : Prop := modnInversesRow.holds Tryz.pinned (OpenSpec.ofChange modnInversesWrong)

/-- 'zigguratlaw22.ModnResidues': WHATEVER THE INPUT: true; the input reads as it did. -/
def modnResiduesSpec : ChangeSpec := { name := "modnResidues", fn := fun _ => fun
  | [d1, d2, d3] => { results := [.lit (.bool true)], args := [d1, d2, d3] }
  | _ => none }
def modnResiduesRow : OpenClaim := { program := "yticehedkalheiaagreatdoor", sum := "bff21d5bc0c9c14a21b508d2b41a39311b3c0197ec5e95eeb1f6a97563ff225e", func := "ziggurat/zigguratlaw22.ModnResidues", spec := "modnResidues", inPlace := ["math/bits.Add64", "math/bits.Sub64"], unfollowed := true, recurses := true, named := ["math/bits.divideError", "math/bits.overflowError", "math/bits.deBruijn64tab"], apart := false, laid := [("math/bits.deBruijn64tab", laid_math_bits_deBruijn64tab)] }
def ModnResiduesSaid : Prop := modnResiduesRow.holds Tryz.pinned (OpenSpec.ofChange modnResiduesSpec)

/-- ITS FALSE NEIGHBOUR: 'it returns false'. Refute it at one input. -/
def modnResiduesWrong : ChangeSpec := { name := "modnResidues", fn := fun _ => fun
  | [d1, d2, d3] => { results := [.lit (.bool false)], args := [d1, d2, d3] }
  | _ => none }
def ModnResiduesWrongFalsely : Prop := modnResiduesRow.holds Tryz.pinned (OpenSpec.ofChange modnResiduesWrong)

/-- 'zigguratlaw22.ModnCrts': WHATEVER THE INPUT: true; the input reads as it did. -/
def modnCrtsSpec : ChangeSpec := { name := "modnCrts", fn := fun _ => fun
  | [d1, d2] => { results := [.lit (.bool true)], args := [d1, d2] }
  | _ => none }
def modnCrtsRow : OpenClaim := { program := "yticehedkalheiaagreatdoor", sum := "bff21d5bc0c9c14a21b508d2b41a39311b3c0197ec5e95eeb1f6a97563ff225e", func := "ziggurat/zigguratlaw22.ModnCrts", spec := "modnCrts", inPlace := ["math/bits.Add64", "math/bits.Sub64"], unfollowed := true, recurses := true, named := ["math/bits.divideError", "math/bits.overflowError", "math/bits.deBruijn64tab"], apart := false, laid := [("math/bits.deBruijn64tab", laid_math_bits_deBruijn64tab)] }
def ModnCrtsSaid : Prop := modnCrtsRow.holds Tryz.pinned (OpenSpec.ofChange modnCrtsSpec)

/-- ITS FALSE NEIGHBOUR: 'it returns false'. Refute it at one input. -/
def modnCrtsWrong : ChangeSpec := { name := "modnCrts", fn := fun _ => fun
  | [d1, d2] => { results := [.lit (.bool false)], args := [d1, d2] }
  | _ => none }
def ModnCrtsWrongFalsely : Prop := modnCrtsRow.holds Tryz.pinned (OpenSpec.ofChange modnCrtsWrong)

/-- 'zigguratlaw22.ModnRemainders': WHATEVER THE INPUT: true; the input reads as it did. -/
def modnRemaindersSpec : ChangeSpec := { name := "modnRemainders", fn := fun _ => fun
  | [d1, d2, d3, d4] => { results := [.lit (.bool true)], args := [d1, d2, d3, d4] }
  | _ => none }
def modnRemaindersRow : OpenClaim := { program := "yticehedkalheiaagreatdoor", sum := "bff21d5bc0c9c14a21b508d2b41a39311b3c0197ec5e95eeb1f6a97563ff225e", func := "ziggurat/zigguratlaw22.ModnRemainders", spec := "modnRemainders", inPlace := ["math/bits.Add64", "math/bits.Sub64"], unfollowed := true, recurses := true, named := ["math/bits.divideError", "math/bits.overflowError", "math/bits.deBruijn64tab"], apart := false, laid := [("math/bits.deBruijn64tab", laid_math_bits_deBruijn64tab)] }
def ModnRemaindersSaid : Prop := modnRemaindersRow.holds Tryz.pinned (OpenSpec.ofChange modnRemaindersSpec)

/-- ITS FALSE NEIGHBOUR: 'it returns false'. Refute it at one input. -/
def modnRemaindersWrong : ChangeSpec := { name := "modnRemainders", fn := fun _ => fun
  | [d1, d2, d3, d4] => { results := [.lit (.bool false)], args := [d1, d2, d3, d4] }
  | _ => none }
def ModnRemaindersWrongFalsely : Prop := modnRemaindersRow.holds Tryz.pinned (OpenSpec.ofChange modnRemaindersWrong)

/-- 'zigguratlaw22.ModnSigneds': WHATEVER THE INPUT: true; the input reads as it did. -/
def modnSignedsSpec : ChangeSpec := { name := "modnSigneds", fn := fun _ => fun
  | [d1, d2, d3] => { results := [.lit (.bool true)], args := [d1, d2, d3] }
  | _ => none }
def modnSignedsRow : OpenClaim := { program := "yticehedkalheiaagreatdoor", sum := "bff21d5bc0c9c14a21b508d2b41a39311b3c0197ec5e95eeb1f6a97563ff225e", func := "ziggurat/zigguratlaw22.ModnSigneds", spec := "modnSigneds", inPlace := ["math/bits.Add64", "math/bits.Sub64"], unfollowed := true, recurses := true, named := ["math/bits.divideError", "math/bits.overflowError", "math/bits.deBruijn64tab"], apart := false, laid := [("math/bits.deBruijn64tab", laid_math_bits_deBruijn64tab)] }
def ModnSignedsSaid : Prop := modnSignedsRow.holds Tryz.pinned (OpenSpec.ofChange modnSignedsSpec)

/-- ITS FALSE NEIGHBOUR: 'it returns false'. Refute it at one input. -/
def modnSignedsWrong : ChangeSpec := { name := "modnSigneds", fn := fun _ => fun
  | [d1, d2, d3] => { results := [.lit (.bool false)], args := [d1, d2, d3] }
  | _ => none }
def ModnSignedsWrongFalsely : Prop := modnSignedsRow.holds Tryz.pinned (OpenSpec.ofChange modnSignedsWrong)

/-- 'zigguratlaw22.ModnBack': WHATEVER THE INPUT: true; the input reads as it did. -/
def modnBackSpec : ChangeSpec := { name := "modnBack", fn := fun _ => fun
  | [d1, d2, d3] => { results := [.lit (.bool true)], args := [d1, d2, d3] }
  | _ => none }
def modnBackRow : OpenClaim := { program := "yticehedkalheiaagreatdoor", sum := "bff21d5bc0c9c14a21b508d2b41a39311b3c0197ec5e95eeb1f6a97563ff225e", func := "ziggurat/zigguratlaw22.ModnBack", spec := "modnBack", inPlace := ["math/bits.Add64", "math/bits.Sub64"], unfollowed := true, recurses := true, named := ["math/bits.divideError", "math/bits.overflowError", "math/bits.deBruijn64tab"], apart := false, laid := [("math/bits.deBruijn64tab", laid_math_bits_deBruijn64tab)] }
def ModnBackSaid : Prop := modnBackRow.holds Tryz.pinned (OpenSpec.ofChange modnBackSpec)

/-- ITS FALSE NEIGHBOUR: 'it returns false'. Refute it at one input. -/
def modnBackWrong : ChangeSpec := { name := "modnBack", fn := fun _ => fun
  | [d1, d2, d3] => { results := [.lit (.bool false)], args := [d1, d2, d3] }
  | _ => none }
def ModnBackWrongFalsely : Prop := modnBackRow.holds Tryz.pinned (OpenSpec.ofChange modnBackWrong)

/- THE SECOND FORM. 'bulk': how many values and letters a reading holds, each counted each time it is reached (what is shared counts as often as it is met; a slice's spare places count too). A statement '..UptoSaid' is the law's where the arguments, and the package variables that the reading takes, are together of bulk at most 1048576: NARROWER than '..Said'. Prove '..Said' where nothing that the law and all that it calls make is longer than what came in: it says more and counts as full. Else prove '..UptoSaid'. A law counts once. -/
mutual
def uptoBulk {H : Type} : DataW H → Nat
  | .lit (.string bytes) => bytes.length + 1
  | .lit _ => 1
  | .nil => 1
  | .ptr d => uptoBulk d + 1
  | .slice elems spare => uptoBulkAll elems + uptoBulkAll spare + 1
  | .agg parts => uptoBulkAll parts + 1
  | .iface _ d => uptoBulk d + 1
  | .map entries => uptoBulkEntries entries + 1
  | .held _ => 1
def uptoBulkAll {H : Type} : List (DataW H) → Nat
  | [] => 0
  | d :: r => uptoBulk d + uptoBulkAll r
def uptoBulkEntries {H : Type} : List (Lit × DataW H) → Nat
  | [] => 0
  | x :: r => uptoBulkEntry x + uptoBulkEntries r
def uptoBulkEntry {H : Type} : Lit × DataW H → Nat
  | (.string bytes, d) => bytes.length + uptoBulk d + 1
  | (_, d) => uptoBulk d + 1
 end
def uptoSmall : (H : Type) → List (DataW H) → Bool := fun _ ds => decide (uptoBulkAll ds ≤ 1048576)
def OpenSpec.upto (s : _root_.Go.ChangeSpec) : _root_.Go.OpenSpec := { _root_.Go.OpenSpec.ofChange s with cond := some uptoSmall }

/-- 'zigguratlaw21.HgcdSteps', WHERE WHAT IT READS IS OF BULK AT MOST 1048576: true; the input reads as it did. -/
def hgcdStepsUptoRow : OpenClaim := { program := "yticehedkalheiaagreatdoor", sum := "bff21d5bc0c9c14a21b508d2b41a39311b3c0197ec5e95eeb1f6a97563ff225e", func := "ziggurat/zigguratlaw21.HgcdSteps", spec := "hgcdSteps", inPlace := ["math/bits.Add64", "math/bits.Sub64"], unfollowed := true, recurses := true, named := ["math/bits.divideError", "math/bits.overflowError", "math/bits.deBruijn64tab"], apart := false, laid := [("math/bits.deBruijn64tab", laid_math_bits_deBruijn64tab)], narrowed := true }
def HgcdStepsUptoSaid : Prop := hgcdStepsUptoRow.holds Tryz.pinned (OpenSpec.upto hgcdStepsSpec)

/-- 'zigguratlaw21.HgcdXgcds', WHERE WHAT IT READS IS OF BULK AT MOST 1048576: true; the input reads as it did. -/
def hgcdXgcdsUptoRow : OpenClaim := { program := "yticehedkalheiaagreatdoor", sum := "bff21d5bc0c9c14a21b508d2b41a39311b3c0197ec5e95eeb1f6a97563ff225e", func := "ziggurat/zigguratlaw21.HgcdXgcds", spec := "hgcdXgcds", inPlace := ["math/bits.Add64", "math/bits.Sub64"], unfollowed := true, recurses := true, named := ["math/bits.divideError", "math/bits.overflowError", "math/bits.deBruijn64tab"], apart := false, laid := [("math/bits.deBruijn64tab", laid_math_bits_deBruijn64tab)], narrowed := true }
def HgcdXgcdsUptoSaid : Prop := hgcdXgcdsUptoRow.holds Tryz.pinned (OpenSpec.upto hgcdXgcdsSpec)

/-- 'zigguratlaw21.HgcdTables', WHERE WHAT IT READS IS OF BULK AT MOST 1048576: true; the input reads as it did. -/
def hgcdTablesUptoRow : OpenClaim := { program := "yticehedkalheiaagreatdoor", sum := "bff21d5bc0c9c14a21b508d2b41a39311b3c0197ec5e95eeb1f6a97563ff225e", func := "ziggurat/zigguratlaw21.HgcdTables", spec := "hgcdTables", inPlace := ["math/bits.Add64", "math/bits.Sub64"], unfollowed := true, recurses := true, named := ["math/bits.divideError", "math/bits.overflowError", "math/bits.deBruijn64tab"], apart := false, laid := [("math/bits.deBruijn64tab", laid_math_bits_deBruijn64tab)], narrowed := true }
def HgcdTablesUptoSaid : Prop := hgcdTablesUptoRow.holds Tryz.pinned (OpenSpec.upto hgcdTablesSpec)

/-- 'zigguratlaw21.HgcdHalves', WHERE WHAT IT READS IS OF BULK AT MOST 1048576: true; the input reads as it did. -/
def hgcdHalvesUptoRow : OpenClaim := { program := "yticehedkalheiaagreatdoor", sum := "bff21d5bc0c9c14a21b508d2b41a39311b3c0197ec5e95eeb1f6a97563ff225e", func := "ziggurat/zigguratlaw21.HgcdHalves", spec := "hgcdHalves", inPlace := ["math/bits.Add64", "math/bits.Sub64"], unfollowed := true, recurses := true, named := ["math/bits.divideError", "math/bits.overflowError", "math/bits.deBruijn64tab"], apart := false, laid := [("math/bits.deBruijn64tab", laid_math_bits_deBruijn64tab)], narrowed := true }
def HgcdHalvesUptoSaid : Prop := hgcdHalvesUptoRow.holds Tryz.pinned (OpenSpec.upto hgcdHalvesSpec)

/-- 'zigguratlaw20.GcdTwos', WHERE WHAT IT READS IS OF BULK AT MOST 1048576: true; the input reads as it did. -/
def gcdTwosUptoRow : OpenClaim := { program := "yticehedkalheiaagreatdoor", sum := "bff21d5bc0c9c14a21b508d2b41a39311b3c0197ec5e95eeb1f6a97563ff225e", func := "ziggurat/zigguratlaw20.GcdTwos", spec := "gcdTwos", inPlace := ["math/bits.Add64", "math/bits.Sub64"], unfollowed := true, recurses := true, named := ["math/bits.divideError", "math/bits.overflowError", "math/bits.deBruijn64tab"], apart := false, laid := [("math/bits.deBruijn64tab", laid_math_bits_deBruijn64tab)], narrowed := true }
def GcdTwosUptoSaid : Prop := gcdTwosUptoRow.holds Tryz.pinned (OpenSpec.upto gcdTwosSpec)

/-- 'zigguratlaw20.GcdCoprimes', WHERE WHAT IT READS IS OF BULK AT MOST 1048576: true; the input reads as it did. -/
def gcdCoprimesUptoRow : OpenClaim := { program := "yticehedkalheiaagreatdoor", sum := "bff21d5bc0c9c14a21b508d2b41a39311b3c0197ec5e95eeb1f6a97563ff225e", func := "ziggurat/zigguratlaw20.GcdCoprimes", spec := "gcdCoprimes", inPlace := ["math/bits.Add64", "math/bits.Sub64"], unfollowed := true, recurses := true, named := ["math/bits.divideError", "math/bits.overflowError", "math/bits.deBruijn64tab"], apart := false, laid := [("math/bits.deBruijn64tab", laid_math_bits_deBruijn64tab)], narrowed := true }
def GcdCoprimesUptoSaid : Prop := gcdCoprimesUptoRow.holds Tryz.pinned (OpenSpec.upto gcdCoprimesSpec)

/-- 'zigguratlaw20.GcdSteps', WHERE WHAT IT READS IS OF BULK AT MOST 1048576: true; the input reads as it did. -/
def gcdStepsUptoRow : OpenClaim := { program := "yticehedkalheiaagreatdoor", sum := "bff21d5bc0c9c14a21b508d2b41a39311b3c0197ec5e95eeb1f6a97563ff225e", func := "ziggurat/zigguratlaw20.GcdSteps", spec := "gcdSteps", inPlace := ["math/bits.Add64", "math/bits.Sub64"], unfollowed := true, recurses := true, named := ["math/bits.divideError", "math/bits.overflowError", "math/bits.deBruijn64tab"], apart := false, laid := [("math/bits.deBruijn64tab", laid_math_bits_deBruijn64tab)], narrowed := true }
def GcdStepsUptoSaid : Prop := gcdStepsUptoRow.holds Tryz.pinned (OpenSpec.upto gcdStepsSpec)

/-- 'zigguratlaw21.HgcdTimes', WHERE WHAT IT READS IS OF BULK AT MOST 1048576: true; the input reads as it did. -/
def hgcdTimesUptoRow : OpenClaim := { program := "yticehedkalheiaagreatdoor", sum := "bff21d5bc0c9c14a21b508d2b41a39311b3c0197ec5e95eeb1f6a97563ff225e", func := "ziggurat/zigguratlaw21.HgcdTimes", spec := "hgcdTimes", inPlace := ["math/bits.Add64", "math/bits.Sub64"], unfollowed := true, recurses := true, named := ["math/bits.divideError", "math/bits.overflowError", "math/bits.deBruijn64tab"], apart := false, laid := [("math/bits.deBruijn64tab", laid_math_bits_deBruijn64tab)], narrowed := true }
def HgcdTimesUptoSaid : Prop := hgcdTimesUptoRow.holds Tryz.pinned (OpenSpec.upto hgcdTimesSpec)

/-- 'zigguratlaw20.GcdAlls', WHERE WHAT IT READS IS OF BULK AT MOST 1048576: true; the input reads as it did. -/
def gcdAllsUptoRow : OpenClaim := { program := "yticehedkalheiaagreatdoor", sum := "bff21d5bc0c9c14a21b508d2b41a39311b3c0197ec5e95eeb1f6a97563ff225e", func := "ziggurat/zigguratlaw20.GcdAlls", spec := "gcdAlls", inPlace := ["math/bits.Add64", "math/bits.Sub64"], unfollowed := true, recurses := true, named := ["math/bits.divideError", "math/bits.overflowError", "math/bits.deBruijn64tab"], apart := false, laid := [("math/bits.deBruijn64tab", laid_math_bits_deBruijn64tab)], narrowed := true }
def GcdAllsUptoSaid : Prop := gcdAllsUptoRow.holds Tryz.pinned (OpenSpec.upto gcdAllsSpec)

/-- 'zigguratlaw20.GcdTables', WHERE WHAT IT READS IS OF BULK AT MOST 1048576: true; the input reads as it did. -/
def gcdTablesUptoRow : OpenClaim := { program := "yticehedkalheiaagreatdoor", sum := "bff21d5bc0c9c14a21b508d2b41a39311b3c0197ec5e95eeb1f6a97563ff225e", func := "ziggurat/zigguratlaw20.GcdTables", spec := "gcdTables", inPlace := ["math/bits.Add64", "math/bits.Sub64"], unfollowed := true, recurses := true, named := ["math/bits.divideError", "math/bits.overflowError", "math/bits.deBruijn64tab"], apart := false, laid := [("math/bits.deBruijn64tab", laid_math_bits_deBruijn64tab)], narrowed := true }
def GcdTablesUptoSaid : Prop := gcdTablesUptoRow.holds Tryz.pinned (OpenSpec.upto gcdTablesSpec)

/-- 'zigguratlaw20.GcdLaws', WHERE WHAT IT READS IS OF BULK AT MOST 1048576: true; the input reads as it did. -/
def gcdLawsUptoRow : OpenClaim := { program := "yticehedkalheiaagreatdoor", sum := "bff21d5bc0c9c14a21b508d2b41a39311b3c0197ec5e95eeb1f6a97563ff225e", func := "ziggurat/zigguratlaw20.GcdLaws", spec := "gcdLaws", inPlace := ["math/bits.Add64", "math/bits.Sub64"], unfollowed := true, recurses := true, named := ["math/bits.divideError", "math/bits.overflowError", "math/bits.deBruijn64tab"], apart := false, laid := [("math/bits.deBruijn64tab", laid_math_bits_deBruijn64tab)], narrowed := true }
def GcdLawsUptoSaid : Prop := gcdLawsUptoRow.holds Tryz.pinned (OpenSpec.upto gcdLawsSpec)

/-- 'zigguratlaw21.HgcdBezout', WHERE WHAT IT READS IS OF BULK AT MOST 1048576: true; the input reads as it did. -/
def hgcdBezoutUptoRow : OpenClaim := { program := "yticehedkalheiaagreatdoor", sum := "bff21d5bc0c9c14a21b508d2b41a39311b3c0197ec5e95eeb1f6a97563ff225e", func := "ziggurat/zigguratlaw21.HgcdBezout", spec := "hgcdBezout", inPlace := ["math/bits.Add64", "math/bits.Sub64"], unfollowed := true, recurses := true, named := ["math/bits.divideError", "math/bits.overflowError", "math/bits.deBruijn64tab"], apart := false, laid := [("math/bits.deBruijn64tab", laid_math_bits_deBruijn64tab)], narrowed := true }
def HgcdBezoutUptoSaid : Prop := hgcdBezoutUptoRow.holds Tryz.pinned (OpenSpec.upto hgcdBezoutSpec)

/-- 'zigguratlaw22.ModnInverses', WHERE WHAT IT READS IS OF BULK AT MOST 1048576: true; the input reads as it did. -/
def modnInversesUptoRow : OpenClaim := { program := "yticehedkalheiaagreatdoor", sum := "bff21d5bc0c9c14a21b508d2b41a39311b3c0197ec5e95eeb1f6a97563ff225e", func := "ziggurat/zigguratlaw22.ModnInverses", spec := "modnInverses", inPlace := ["math/bits.Add64", "math/bits.Sub64"], unfollowed := true, recurses := true, named := ["math/bits.divideError", "math/bits.overflowError", "math/bits.deBruijn64tab"], apart := false, laid := [("math/bits.deBruijn64tab", laid_math_bits_deBruijn64tab)], narrowed := true }
def ModnInversesUptoSaid : Prop := modnInversesUptoRow.holds Tryz.pinned (OpenSpec.upto modnInversesSpec)

/-- 'zigguratlaw22.ModnResidues', WHERE WHAT IT READS IS OF BULK AT MOST 1048576: true; the input reads as it did. -/
def modnResiduesUptoRow : OpenClaim := { program := "yticehedkalheiaagreatdoor", sum := "bff21d5bc0c9c14a21b508d2b41a39311b3c0197ec5e95eeb1f6a97563ff225e", func := "ziggurat/zigguratlaw22.ModnResidues", spec := "modnResidues", inPlace := ["math/bits.Add64", "math/bits.Sub64"], unfollowed := true, recurses := true, named := ["math/bits.divideError", "math/bits.overflowError", "math/bits.deBruijn64tab"], apart := false, laid := [("math/bits.deBruijn64tab", laid_math_bits_deBruijn64tab)], narrowed := true }
def ModnResiduesUptoSaid : Prop := modnResiduesUptoRow.holds Tryz.pinned (OpenSpec.upto modnResiduesSpec)

/-- 'zigguratlaw22.ModnCrts', WHERE WHAT IT READS IS OF BULK AT MOST 1048576: true; the input reads as it did. -/
def modnCrtsUptoRow : OpenClaim := { program := "yticehedkalheiaagreatdoor", sum := "bff21d5bc0c9c14a21b508d2b41a39311b3c0197ec5e95eeb1f6a97563ff225e", func := "ziggurat/zigguratlaw22.ModnCrts", spec := "modnCrts", inPlace := ["math/bits.Add64", "math/bits.Sub64"], unfollowed := true, recurses := true, named := ["math/bits.divideError", "math/bits.overflowError", "math/bits.deBruijn64tab"], apart := false, laid := [("math/bits.deBruijn64tab", laid_math_bits_deBruijn64tab)], narrowed := true }
def ModnCrtsUptoSaid : Prop := modnCrtsUptoRow.holds Tryz.pinned (OpenSpec.upto modnCrtsSpec)

/-- 'zigguratlaw22.ModnRemainders', WHERE WHAT IT READS IS OF BULK AT MOST 1048576: true; the input reads as it did. -/
def modnRemaindersUptoRow : OpenClaim := { program := "yticehedkalheiaagreatdoor", sum := "bff21d5bc0c9c14a21b508d2b41a39311b3c0197ec5e95eeb1f6a97563ff225e", func := "ziggurat/zigguratlaw22.ModnRemainders", spec := "modnRemainders", inPlace := ["math/bits.Add64", "math/bits.Sub64"], unfollowed := true, recurses := true, named := ["math/bits.divideError", "math/bits.overflowError", "math/bits.deBruijn64tab"], apart := false, laid := [("math/bits.deBruijn64tab", laid_math_bits_deBruijn64tab)], narrowed := true }
def ModnRemaindersUptoSaid : Prop := modnRemaindersUptoRow.holds Tryz.pinned (OpenSpec.upto modnRemaindersSpec)

/-- 'zigguratlaw22.ModnSigneds', WHERE WHAT IT READS IS OF BULK AT MOST 1048576: true; the input reads as it did. -/
def modnSignedsUptoRow : OpenClaim := { program := "yticehedkalheiaagreatdoor", sum := "bff21d5bc0c9c14a21b508d2b41a39311b3c0197ec5e95eeb1f6a97563ff225e", func := "ziggurat/zigguratlaw22.ModnSigneds", spec := "modnSigneds", inPlace := ["math/bits.Add64", "math/bits.Sub64"], unfollowed := true, recurses := true, named := ["math/bits.divideError", "math/bits.overflowError", "math/bits.deBruijn64tab"], apart := false, laid := [("math/bits.deBruijn64tab", laid_math_bits_deBruijn64tab)], narrowed := true }
def ModnSignedsUptoSaid : Prop := modnSignedsUptoRow.holds Tryz.pinned (OpenSpec.upto modnSignedsSpec)

/-- 'zigguratlaw22.ModnBack', WHERE WHAT IT READS IS OF BULK AT MOST 1048576: true; the input reads as it did. -/
def modnBackUptoRow : OpenClaim := { program := "yticehedkalheiaagreatdoor", sum := "bff21d5bc0c9c14a21b508d2b41a39311b3c0197ec5e95eeb1f6a97563ff225e", func := "ziggurat/zigguratlaw22.ModnBack", spec := "modnBack", inPlace := ["math/bits.Add64", "math/bits.Sub64"], unfollowed := true, recurses := true, named := ["math/bits.divideError", "math/bits.overflowError", "math/bits.deBruijn64tab"], apart := false, laid := [("math/bits.deBruijn64tab", laid_math_bits_deBruijn64tab)], narrowed := true }
def ModnBackUptoSaid : Prop := modnBackUptoRow.holds Tryz.pinned (OpenSpec.upto modnBackSpec)

end Rows
end Go.Proofs.YticehedkalheiaaGreatDoor
