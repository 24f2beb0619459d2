/-
  NARROWER THAN 'FOR EVERY INPUT', by the rows' own cells (each row's printed sentence says how): ZdivContents: laid · ZdivInterpolants: laid · ZdivPseudos: laid · ZdivPseudoBack: laid · ZdivExacts: laid · ZdivCommons: laid · ZdivDivides: laid.
  DERIVED. THE GIVEN ROWS OF THIS SEAT. 7 by the template 'for every input the law returns true; each argument reads behind the call as it read before'; 0 by the template 'total and deterministic' (their statements: YtpbimnlggalnfaaGreatDoorTotals.lean).
  GIVEN WITH THE SEED: the statements are not yours to turn. If you find one false, say at which input.
  Laid BY PROGRAM, IN A SANDBOX (cutbox-rows.mjs): the forced cells as the released guide's own fill.sh prints them over the translation 6a6bb191347879a0… (all of the seat's roots in one cut). By AI agents, Wed Nov 11 2026. No macro, syntax, notation, axiom, sorry.
-/
import Derived.Test.YtpbimnlggalnfaaGreatDoorChecked
import GoSem.Claim
import GoSem.ClaimJoined
import GoSem.ClaimMapViews
import Derived.JoinedTies
import Derived.KernelRfl
namespace Go.Proofs.YtpbimnlggalnfaaGreatDoor
/- THE CELL 'sum', in the pinned program and in every row, IS THE sha256 OF THE DUMP (.gsa) THAT YtpbimnlggalnfaaGreatDoorProg.lean LOADS. Nothing in Lean hashes anything: it is a label: what it is worth is what the hold of that sum in a sandbox is worth. -/
noncomputable def Tryz.pinned : Pinned := { name := "ytpbimnlggalnfaagreatdoor", sum := "6a6bb191347879a0cb89bb491b577434acf26a03229f96e5806a88471028852b", checked := Tryz.checked }
namespace Rows
def none {H : Type} : Left H := { results := [], args := [] }

/- WHAT THE LISTED PACKAGE-LEVEL VARIABLES READ AS WHEN THE CALL BEGINS. Each datum BY PROGRAM (the guide's laid-datum.mjs) off the statement by which the dump's own 'gosem.cut.vars' lays the variable. In a bare row this is a premise. The card (YtpbimnlggalnfaaGreatDoorCards.lean) ties it to the program's text. -/
def laid_math_bits_deBruijn64tab {H : Type} : DataW H := .agg [.lit (.int .u8 0), .lit (.int .u8 1), .lit (.int .u8 56), .lit (.int .u8 2), .lit (.int .u8 57), .lit (.int .u8 49), .lit (.int .u8 28), .lit (.int .u8 3), .lit (.int .u8 61), .lit (.int .u8 58), .lit (.int .u8 42), .lit (.int .u8 50), .lit (.int .u8 38), .lit (.int .u8 29), .lit (.int .u8 17), .lit (.int .u8 4), .lit (.int .u8 62), .lit (.int .u8 47), .lit (.int .u8 59), .lit (.int .u8 36), .lit (.int .u8 45), .lit (.int .u8 43), .lit (.int .u8 51), .lit (.int .u8 22), .lit (.int .u8 53), .lit (.int .u8 39), .lit (.int .u8 33), .lit (.int .u8 30), .lit (.int .u8 24), .lit (.int .u8 18), .lit (.int .u8 12), .lit (.int .u8 5), .lit (.int .u8 63), .lit (.int .u8 55), .lit (.int .u8 48), .lit (.int .u8 27), .lit (.int .u8 60), .lit (.int .u8 41), .lit (.int .u8 37), .lit (.int .u8 16), .lit (.int .u8 46), .lit (.int .u8 35), .lit (.int .u8 44), .lit (.int .u8 21), .lit (.int .u8 52), .lit (.int .u8 32), .lit (.int .u8 23), .lit (.int .u8 11), .lit (.int .u8 54), .lit (.int .u8 26), .lit (.int .u8 40), .lit (.int .u8 15), .lit (.int .u8 34), .lit (.int .u8 20), .lit (.int .u8 31), .lit (.int .u8 10), .lit (.int .u8 25), .lit (.int .u8 14), .lit (.int .u8 19), .lit (.int .u8 9), .lit (.int .u8 13), .lit (.int .u8 8), .lit (.int .u8 7), .lit (.int .u8 6)]

/-- 'zigguratlaw30.ZdivContents': WHATEVER THE INPUT: true; the input reads as it did. -/
def zdivContentsSpec : ChangeSpec := { name := "zdivContents", fn := fun _ => fun
  | [d1, d2, d3, d4] => { results := [.lit (.bool true)], args := [d1, d2, d3, d4] }
  | _ => none }
def zdivContentsRow : OpenClaim := { program := "ytpbimnlggalnfaagreatdoor", sum := "6a6bb191347879a0cb89bb491b577434acf26a03229f96e5806a88471028852b", func := "ziggurat/zigguratlaw30.ZdivContents", spec := "zdivContents", inPlace := ["math/bits.Add64", "math/bits.Sub64"], unfollowed := true, recurses := true, named := ["math/bits.divideError", "math/bits.overflowError", "math/bits.deBruijn64tab"], apart := false, laid := [("math/bits.deBruijn64tab", laid_math_bits_deBruijn64tab)] }
def ZdivContentsSaid : Prop := zdivContentsRow.holds Tryz.pinned (OpenSpec.ofChange zdivContentsSpec)

/-- ITS FALSE NEIGHBOUR: 'it returns false'. Refute it at one input. -/
def zdivContentsWrong : ChangeSpec := { name := "zdivContents", fn := fun _ => fun
  | [d1, d2, d3, d4] => { results := [.lit (.bool false)], args := [d1, d2, d3, d4] }
  | _ => none }
def ZdivContentsWrongFalsely : Prop := zdivContentsRow.holds Tryz.pinned (OpenSpec.ofChange zdivContentsWrong)

/-- 'zigguratlaw30.ZdivInterpolants': WHATEVER THE INPUT: true; the input reads as it did. -/
def zdivInterpolantsSpec : ChangeSpec := { name := "zdivInterpolants", fn := fun _ => fun
  | [d1, d2, d3, d4, d5] => { results := [.lit (.bool true)], args := [d1, d2, d3, d4, d5] }
  | _ => none }
def zdivInterpolantsRow : OpenClaim := { program := "ytpbimnlggalnfaagreatdoor", sum := "6a6bb191347879a0cb89bb491b577434acf26a03229f96e5806a88471028852b", func := "ziggurat/zigguratlaw30.ZdivInterpolants", spec := "zdivInterpolants", inPlace := ["math/bits.Add64", "math/bits.Sub64"], unfollowed := true, recurses := true, named := ["math/bits.divideError", "math/bits.overflowError", "math/bits.deBruijn64tab"], apart := false, laid := [("math/bits.deBruijn64tab", laid_math_bits_deBruijn64tab)] }
def ZdivInterpolantsSaid : Prop := zdivInterpolantsRow.holds Tryz.pinned (OpenSpec.ofChange zdivInterpolantsSpec)

/-- ITS FALSE NEIGHBOUR: 'it returns false'. Refute it at one input. -/
def zdivInterpolantsWrong : ChangeSpec := { name := "zdivInterpolants", fn := fun _ => fun
  | [d1, d2, d3, d4, d5] => { results := [.lit (.bool false)], args := [d1, d2, d3, d4, d5] }
  | _ => none }
def ZdivInterpolantsWrongFalsely : Prop := zdivInterpolantsRow.holds Tryz.pinned (OpenSpec.ofChange zdivInterpolantsWrong)

/-- 'zigguratlaw30.ZdivPseudos': WHATEVER THE INPUT: true; the input reads as it did. -/
def zdivPseudosSpec : ChangeSpec := { name := "zdivPseudos", fn := fun _ => fun
  | [d1, d2, d3] => { results := [.lit (.bool true)], args := [d1, d2, d3] }
  | _ => none }
def zdivPseudosRow : OpenClaim := { program := "ytpbimnlggalnfaagreatdoor", sum := "6a6bb191347879a0cb89bb491b577434acf26a03229f96e5806a88471028852b", func := "ziggurat/zigguratlaw30.ZdivPseudos", spec := "zdivPseudos", inPlace := ["math/bits.Add64", "math/bits.Sub64"], unfollowed := true, recurses := true, named := ["math/bits.divideError", "math/bits.overflowError", "math/bits.deBruijn64tab"], apart := false, laid := [("math/bits.deBruijn64tab", laid_math_bits_deBruijn64tab)] }
def ZdivPseudosSaid : Prop := zdivPseudosRow.holds Tryz.pinned (OpenSpec.ofChange zdivPseudosSpec)

/-- ITS FALSE NEIGHBOUR: 'it returns false'. Refute it at one input. -/
def zdivPseudosWrong : ChangeSpec := { name := "zdivPseudos", fn := fun _ => fun
  | [d1, d2, d3] => { results := [.lit (.bool false)], args := [d1, d2, d3] }
  | _ => none }
def ZdivPseudosWrongFalsely : Prop := zdivPseudosRow.holds Tryz.pinned (OpenSpec.ofChange zdivPseudosWrong)

/-- 'zigguratlaw30.ZdivPseudoBack': WHATEVER THE INPUT: true; the input reads as it did. -/
def zdivPseudoBackSpec : ChangeSpec := { name := "zdivPseudoBack", fn := fun _ => fun
  | [d1, d2, d3] => { results := [.lit (.bool true)], args := [d1, d2, d3] }
  | _ => none }
def zdivPseudoBackRow : OpenClaim := { program := "ytpbimnlggalnfaagreatdoor", sum := "6a6bb191347879a0cb89bb491b577434acf26a03229f96e5806a88471028852b", func := "ziggurat/zigguratlaw30.ZdivPseudoBack", spec := "zdivPseudoBack", inPlace := ["math/bits.Add64", "math/bits.Sub64"], unfollowed := true, recurses := true, named := ["math/bits.divideError", "math/bits.overflowError", "math/bits.deBruijn64tab"], apart := false, laid := [("math/bits.deBruijn64tab", laid_math_bits_deBruijn64tab)] }
def ZdivPseudoBackSaid : Prop := zdivPseudoBackRow.holds Tryz.pinned (OpenSpec.ofChange zdivPseudoBackSpec)

/-- ITS FALSE NEIGHBOUR: 'it returns false'. Refute it at one input. -/
def zdivPseudoBackWrong : ChangeSpec := { name := "zdivPseudoBack", fn := fun _ => fun
  | [d1, d2, d3] => { results := [.lit (.bool false)], args := [d1, d2, d3] }
  | _ => none }
def ZdivPseudoBackWrongFalsely : Prop := zdivPseudoBackRow.holds Tryz.pinned (OpenSpec.ofChange zdivPseudoBackWrong)

/-- 'zigguratlaw30.ZdivExacts': WHATEVER THE INPUT: true; the input reads as it did. -/
def zdivExactsSpec : ChangeSpec := { name := "zdivExacts", fn := fun _ => fun
  | [d1, d2, d3, d4] => { results := [.lit (.bool true)], args := [d1, d2, d3, d4] }
  | _ => none }
def zdivExactsRow : OpenClaim := { program := "ytpbimnlggalnfaagreatdoor", sum := "6a6bb191347879a0cb89bb491b577434acf26a03229f96e5806a88471028852b", func := "ziggurat/zigguratlaw30.ZdivExacts", spec := "zdivExacts", inPlace := ["math/bits.Add64", "math/bits.Sub64"], unfollowed := true, recurses := true, named := ["math/bits.divideError", "math/bits.overflowError", "math/bits.deBruijn64tab"], apart := false, laid := [("math/bits.deBruijn64tab", laid_math_bits_deBruijn64tab)] }
def ZdivExactsSaid : Prop := zdivExactsRow.holds Tryz.pinned (OpenSpec.ofChange zdivExactsSpec)

/-- ITS FALSE NEIGHBOUR: 'it returns false'. Refute it at one input. -/
def zdivExactsWrong : ChangeSpec := { name := "zdivExacts", fn := fun _ => fun
  | [d1, d2, d3, d4] => { results := [.lit (.bool false)], args := [d1, d2, d3, d4] }
  | _ => none }
def ZdivExactsWrongFalsely : Prop := zdivExactsRow.holds Tryz.pinned (OpenSpec.ofChange zdivExactsWrong)

/-- 'zigguratlaw30.ZdivCommons': WHATEVER THE INPUT: true; the input reads as it did. -/
def zdivCommonsSpec : ChangeSpec := { name := "zdivCommons", fn := fun _ => fun
  | [d1, d2, d3, d4] => { results := [.lit (.bool true)], args := [d1, d2, d3, d4] }
  | _ => none }
def zdivCommonsRow : OpenClaim := { program := "ytpbimnlggalnfaagreatdoor", sum := "6a6bb191347879a0cb89bb491b577434acf26a03229f96e5806a88471028852b", func := "ziggurat/zigguratlaw30.ZdivCommons", spec := "zdivCommons", inPlace := ["math/bits.Add64", "math/bits.Sub64"], unfollowed := true, recurses := true, named := ["math/bits.divideError", "math/bits.overflowError", "math/bits.deBruijn64tab"], apart := false, laid := [("math/bits.deBruijn64tab", laid_math_bits_deBruijn64tab)] }
def ZdivCommonsSaid : Prop := zdivCommonsRow.holds Tryz.pinned (OpenSpec.ofChange zdivCommonsSpec)

/-- ITS FALSE NEIGHBOUR: 'it returns false'. Refute it at one input. -/
def zdivCommonsWrong : ChangeSpec := { name := "zdivCommons", fn := fun _ => fun
  | [d1, d2, d3, d4] => { results := [.lit (.bool false)], args := [d1, d2, d3, d4] }
  | _ => none }
def ZdivCommonsWrongFalsely : Prop := zdivCommonsRow.holds Tryz.pinned (OpenSpec.ofChange zdivCommonsWrong)

/-- 'zigguratlaw30.ZdivDivides': WHATEVER THE INPUT: true; the input reads as it did. -/
def zdivDividesSpec : ChangeSpec := { name := "zdivDivides", fn := fun _ => fun
  | [d1, d2, d3, d4, d5] => { results := [.lit (.bool true)], args := [d1, d2, d3, d4, d5] }
  | _ => none }
def zdivDividesRow : OpenClaim := { program := "ytpbimnlggalnfaagreatdoor", sum := "6a6bb191347879a0cb89bb491b577434acf26a03229f96e5806a88471028852b", func := "ziggurat/zigguratlaw30.ZdivDivides", spec := "zdivDivides", inPlace := ["math/bits.Add64", "math/bits.Sub64"], unfollowed := true, recurses := true, named := ["math/bits.divideError", "math/bits.overflowError", "math/bits.deBruijn64tab"], apart := false, laid := [("math/bits.deBruijn64tab", laid_math_bits_deBruijn64tab)] }
def ZdivDividesSaid : Prop := zdivDividesRow.holds Tryz.pinned (OpenSpec.ofChange zdivDividesSpec)

/-- ITS FALSE NEIGHBOUR: 'it returns false'. Refute it at one input. -/
def zdivDividesWrong : ChangeSpec := { name := "zdivDivides", fn := fun _ => fun
  | [d1, d2, d3, d4, d5] => { results := [.lit (.bool false)], args := [d1, d2, d3, d4, d5] }
  | _ => none }
def ZdivDividesWrongFalsely : Prop := zdivDividesRow.holds Tryz.pinned (OpenSpec.ofChange zdivDividesWrong)

/- THE SECOND FORM. 'bulk': how many values and letters a reading holds, each counted each time it is reached (what is shared counts as often as it is met; a slice's spare places count too). A statement '..UptoSaid' is the law's where the arguments, and the package variables that the reading takes, are together of bulk at most 1048576: NARROWER than '..Said'. Prove '..Said' where nothing that the law and all that it calls make is longer than what came in: it says more and counts as full. Else prove '..UptoSaid'. A law counts once. -/
mutual
def uptoBulk {H : Type} : DataW H → Nat
  | .lit (.string bytes) => bytes.length + 1
  | .lit _ => 1
  | .nil => 1
  | .ptr d => uptoBulk d + 1
  | .slice elems spare => uptoBulkAll elems + uptoBulkAll spare + 1
  | .agg parts => uptoBulkAll parts + 1
  | .iface _ d => uptoBulk d + 1
  | .map entries => uptoBulkEntries entries + 1
  | .held _ => 1
def uptoBulkAll {H : Type} : List (DataW H) → Nat
  | [] => 0
  | d :: r => uptoBulk d + uptoBulkAll r
def uptoBulkEntries {H : Type} : List (Lit × DataW H) → Nat
  | [] => 0
  | x :: r => uptoBulkEntry x + uptoBulkEntries r
def uptoBulkEntry {H : Type} : Lit × DataW H → Nat
  | (.string bytes, d) => bytes.length + uptoBulk d + 1
  | (_, d) => uptoBulk d + 1
 end
def uptoSmall : (H : Type) → List (DataW H) → Bool := fun _ ds => decide (uptoBulkAll ds ≤ 1048576)
def OpenSpec.upto (s : _root_.Go.ChangeSpec) : _root_.Go.OpenSpec := { _root_.Go.OpenSpec.ofChange s with cond := some uptoSmall }

/-- 'zigguratlaw30.ZdivContents', WHERE WHAT IT READS IS OF BULK AT MOST 1048576: true; the input reads as it did. -/
def zdivContentsUptoRow : OpenClaim := { program := "ytpbimnlggalnfaagreatdoor", sum := "6a6bb191347879a0cb89bb491b577434acf26a03229f96e5806a88471028852b", func := "ziggurat/zigguratlaw30.ZdivContents", spec := "zdivContents", inPlace := ["math/bits.Add64", "math/bits.Sub64"], unfollowed := true, recurses := true, named := ["math/bits.divideError", "math/bits.overflowError", "math/bits.deBruijn64tab"], apart := false, laid := [("math/bits.deBruijn64tab", laid_math_bits_deBruijn64tab)], narrowed := true }
def ZdivContentsUptoSaid : Prop := zdivContentsUptoRow.holds Tryz.pinned (OpenSpec.upto zdivContentsSpec)

/-- 'zigguratlaw30.ZdivInterpolants', WHERE WHAT IT READS IS OF BULK AT MOST 1048576: true; the input reads as it did. -/
def zdivInterpolantsUptoRow : OpenClaim := { program := "ytpbimnlggalnfaagreatdoor", sum := "6a6bb191347879a0cb89bb491b577434acf26a03229f96e5806a88471028852b", func := "ziggurat/zigguratlaw30.ZdivInterpolants", spec := "zdivInterpolants", inPlace := ["math/bits.Add64", "math/bits.Sub64"], unfollowed := true, recurses := true, named := ["math/bits.divideError", "math/bits.overflowError", "math/bits.deBruijn64tab"], apart := false, laid := [("math/bits.deBruijn64tab", laid_math_bits_deBruijn64tab)], narrowed := true }
def ZdivInterpolantsUptoSaid : Prop := zdivInterpolantsUptoRow.holds Tryz.pinned (OpenSpec.upto zdivInterpolantsSpec)

/-- 'zigguratlaw30.ZdivPseudos', WHERE WHAT IT READS IS OF BULK AT MOST 1048576: true; the input reads as it did. -/
def zdivPseudosUptoRow : OpenClaim := { program := "ytpbimnlggalnfaagreatdoor", sum := "6a6bb191347879a0cb89bb491b577434acf26a03229f96e5806a88471028852b", func := "ziggurat/zigguratlaw30.ZdivPseudos", spec := "zdivPseudos", inPlace := ["math/bits.Add64", "math/bits.Sub64"], unfollowed := true, recurses := true, named := ["math/bits.divideError", "math/bits.overflowError", "math/bits.deBruijn64tab"], apart := false, laid := [("math/bits.deBruijn64tab", laid_math_bits_deBruijn64tab)], narrowed := true }
def ZdivPseudosUptoSaid : Prop := zdivPseudosUptoRow.holds Tryz.pinned (OpenSpec.upto zdivPseudosSpec)

/-- 'zigguratlaw30.ZdivPseudoBack', WHERE WHAT IT READS IS OF BULK AT MOST 1048576: true; the input reads as it did. -/
def zdivPseudoBackUptoRow : OpenClaim := { program := "ytpbimnlggalnfaagreatdoor", sum := "6a6bb191347879a0cb89bb491b577434acf26a03229f96e5806a88471028852b", func := "ziggurat/zigguratlaw30.ZdivPseudoBack", spec := "zdivPseudoBack", inPlace := ["math/bits.Add64", "math/bits.Sub64"], unfollowed := true, recurses := true, named := ["math/bits.divideError", "math/bits.overflowError", "math/bits.deBruijn64tab"], apart := false, laid := [("math/bits.deBruijn64tab", laid_math_bits_deBruijn64tab)], narrowed := true }
def ZdivPseudoBackUptoSaid : Prop := zdivPseudoBackUptoRow.holds Tryz.pinned (OpenSpec.upto zdivPseudoBackSpec)

/-- 'zigguratlaw30.ZdivExacts', WHERE WHAT IT READS IS OF BULK AT MOST 1048576: true; the input reads as it did. -/
def zdivExactsUptoRow : OpenClaim := { program := "ytpbimnlggalnfaagreatdoor", sum := "6a6bb191347879a0cb89bb491b577434acf26a03229f96e5806a88471028852b", func := "ziggurat/zigguratlaw30.ZdivExacts", spec := "zdivExacts", inPlace := ["math/bits.Add64", "math/bits.Sub64"], unfollowed := true, recurses := true, named := ["math/bits.divideError", "math/bits.overflowError", "math/bits.deBruijn64tab"], apart := false, laid := [("math/bits.deBruijn64tab", laid_math_bits_deBruijn64tab)], narrowed := true }
def ZdivExactsUptoSaid : Prop := zdivExactsUptoRow.holds Tryz.pinned (OpenSpec.upto zdivExactsSpec)

/-- 'zigguratlaw30.ZdivCommons', WHERE WHAT IT READS IS OF BULK AT MOST 1048576: true; the input reads as it did. -/
def zdivCommonsUptoRow : OpenClaim := { program := "ytpbimnlggalnfaagreatdoor", sum := "6a6bb191347879a0cb89bb491b577434acf26a03229f96e5806a88471028852b", func := "ziggurat/zigguratlaw30.ZdivCommons", spec := "zdivCommons", inPlace := ["math/bits.Add64", "math/bits.Sub64"], unfollowed := true, recurses := true, named := ["math/bits.divideError", "math/bits.overflowError", "math/bits.deBruijn64tab"], apart := false, laid := [("math/bits.deBruijn64tab", laid_math_bits_deBruijn64tab)], narrowed := true }
def ZdivCommonsUptoSaid : Prop := zdivCommonsUptoRow.holds Tryz.pinned (OpenSpec.upto zdivCommonsSpec)

/-- 'zigguratlaw30.ZdivDivides', WHERE WHAT IT READS IS OF BULK AT MOST 1048576: true; the input reads as it did. -/
def zdivDividesUptoRow : OpenClaim := { program := "ytpbimnlggalnfaagreatdoor", sum := "6a6bb191347879a0cb89bb491b577434acf26a03229f96e5806a88471028852b", func := "ziggurat/zigguratlaw30.ZdivDivides", spec := "zdivDivides", inPlace := ["math/bits.Add64", "math/bits.Sub64"], unfollowed := true, recurses := true, named := ["math/bits.divideError", "math/bits.overflowError", "math/bits.deBruijn64tab"], apart := false, laid := [("math/bits.deBruijn64tab", laid_math_bits_deBruijn64tab)], narrowed := true }
def ZdivDividesUptoSaid : Prop := zdivDividesUptoRow.holds Tryz.pinned (OpenSpec.upto zdivDividesSpec)

end Rows
end Go.Proofs.YtpbimnlggalnfaaGreatDoor
