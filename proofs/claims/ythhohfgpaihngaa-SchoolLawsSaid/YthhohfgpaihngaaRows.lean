/-
  No cell of these rows narrows 'for every input' (looked for: loops, veiled, ifaces, maps, wideKeys, modest, calm, conditions, laid).
  DERIVED. THE GIVEN ROWS OF THIS SEAT. 12 by the template 'for every input the law returns true; each argument reads behind the call as it read before'; 0 by the template 'total and deterministic' (their statements: YthhohfgpaihngaaTotals.lean).
  GIVEN WITH THE SEED: the statements are not yours to turn. If you find one false, say at which input.
  Laid BY PROGRAM, IN A SANDBOX (cutbox-rows.mjs): the forced cells as the released guide's own fill.sh prints them over the translation 97dae525638a5e34… (all of the seat's roots in one cut). By AI agents, Wed Nov 11 2026. No macro, syntax, notation, axiom, sorry.
-/
import Derived.Test.YthhohfgpaihngaaChecked
import GoSem.Claim
import GoSem.ClaimJoined
import GoSem.ClaimMapViews
import Derived.JoinedTies
import Derived.KernelRfl
namespace Go.Proofs.Ythhohfgpaihngaa
/- THE CELL 'sum', in the pinned program and in every row, IS THE sha256 OF THE DUMP (.gsa) THAT YthhohfgpaihngaaProg.lean LOADS. Nothing in Lean hashes anything: it is a label: what it is worth is what the hold of that sum in a sandbox is worth. -/
noncomputable def Try.pinned : Pinned := { name := "ythhohfgpaihngaa", sum := "97dae525638a5e34a0d7409412192ec9b2709a5a7598200c3274d22a828b67ad", checked := Try.checked }
namespace Rows
def none {H : Type} : Left H := { results := [], args := [] }

/-- 'zigguratlaw05.SchoolMuls': WHATEVER THE INPUT: true; the input reads as it did. -/
def schoolMulsSpec : ChangeSpec := { name := "schoolMuls", fn := fun _ => fun
  | [d1, d2, d3] => { results := [.lit (.bool true)], args := [d1, d2, d3] }
  | _ => none }
def schoolMulsRow : OpenClaim := { program := "ythhohfgpaihngaa", sum := "97dae525638a5e34a0d7409412192ec9b2709a5a7598200c3274d22a828b67ad", func := "ziggurat/zigguratlaw05.SchoolMuls", spec := "schoolMuls", inPlace := ["math/bits.Add64"], apart := false }
def SchoolMulsSaid : Prop := schoolMulsRow.holds Try.pinned (OpenSpec.ofChange schoolMulsSpec)

/-- ITS FALSE NEIGHBOUR: 'it returns false'. Refute it at one input. -/
def schoolMulsWrong : ChangeSpec := { name := "schoolMuls", fn := fun _ => fun
  | [d1, d2, d3] => { results := [.lit (.bool false)], args := [d1, d2, d3] }
  | _ => none }
def SchoolMulsWrongFalsely : Prop := schoolMulsRow.holds Try.pinned (OpenSpec.ofChange schoolMulsWrong)

/-- 'zigguratlaw02.LimbJoins': WHATEVER THE INPUT: true; the input reads as it did. -/
def limbJoinsSpec : ChangeSpec := { name := "limbJoins", fn := fun _ => fun
  | [d1, d2] => { results := [.lit (.bool true)], args := [d1, d2] }
  | _ => none }
def limbJoinsRow : OpenClaim := { program := "ythhohfgpaihngaa", sum := "97dae525638a5e34a0d7409412192ec9b2709a5a7598200c3274d22a828b67ad", func := "ziggurat/zigguratlaw02.LimbJoins", spec := "limbJoins", inPlace := ["math/bits.Add64", "math/bits.Sub64"], apart := false }
def LimbJoinsSaid : Prop := limbJoinsRow.holds Try.pinned (OpenSpec.ofChange limbJoinsSpec)

/-- ITS FALSE NEIGHBOUR: 'it returns false'. Refute it at one input. -/
def limbJoinsWrong : ChangeSpec := { name := "limbJoins", fn := fun _ => fun
  | [d1, d2] => { results := [.lit (.bool false)], args := [d1, d2] }
  | _ => none }
def LimbJoinsWrongFalsely : Prop := limbJoinsRow.holds Try.pinned (OpenSpec.ofChange limbJoinsWrong)

/-- 'zigguratlaw05.SchoolPowers': WHATEVER THE INPUT: true; the input reads as it did. -/
def schoolPowersSpec : ChangeSpec := { name := "schoolPowers", fn := fun _ => fun
  | [d1, d2, d3] => { results := [.lit (.bool true)], args := [d1, d2, d3] }
  | _ => none }
def schoolPowersRow : OpenClaim := { program := "ythhohfgpaihngaa", sum := "97dae525638a5e34a0d7409412192ec9b2709a5a7598200c3274d22a828b67ad", func := "ziggurat/zigguratlaw05.SchoolPowers", spec := "schoolPowers", inPlace := ["math/bits.Add64"], apart := false }
def SchoolPowersSaid : Prop := schoolPowersRow.holds Try.pinned (OpenSpec.ofChange schoolPowersSpec)

/-- ITS FALSE NEIGHBOUR: 'it returns false'. Refute it at one input. -/
def schoolPowersWrong : ChangeSpec := { name := "schoolPowers", fn := fun _ => fun
  | [d1, d2, d3] => { results := [.lit (.bool false)], args := [d1, d2, d3] }
  | _ => none }
def SchoolPowersWrongFalsely : Prop := schoolPowersRow.holds Try.pinned (OpenSpec.ofChange schoolPowersWrong)

/-- 'zigguratlaw02.LimbSums': WHATEVER THE INPUT: true; the input reads as it did. -/
def limbSumsSpec : ChangeSpec := { name := "limbSums", fn := fun _ => fun
  | [d1, d2] => { results := [.lit (.bool true)], args := [d1, d2] }
  | _ => none }
def limbSumsRow : OpenClaim := { program := "ythhohfgpaihngaa", sum := "97dae525638a5e34a0d7409412192ec9b2709a5a7598200c3274d22a828b67ad", func := "ziggurat/zigguratlaw02.LimbSums", spec := "limbSums", inPlace := ["math/bits.Add64", "math/bits.Sub64"], apart := false }
def LimbSumsSaid : Prop := limbSumsRow.holds Try.pinned (OpenSpec.ofChange limbSumsSpec)

/-- ITS FALSE NEIGHBOUR: 'it returns false'. Refute it at one input. -/
def limbSumsWrong : ChangeSpec := { name := "limbSums", fn := fun _ => fun
  | [d1, d2] => { results := [.lit (.bool false)], args := [d1, d2] }
  | _ => none }
def LimbSumsWrongFalsely : Prop := limbSumsRow.holds Try.pinned (OpenSpec.ofChange limbSumsWrong)

/-- 'zigguratlaw02.LimbSplits': WHATEVER THE INPUT: true; the input reads as it did. -/
def limbSplitsSpec : ChangeSpec := { name := "limbSplits", fn := fun _ => fun
  | [d1, d2] => { results := [.lit (.bool true)], args := [d1, d2] }
  | _ => none }
def limbSplitsRow : OpenClaim := { program := "ythhohfgpaihngaa", sum := "97dae525638a5e34a0d7409412192ec9b2709a5a7598200c3274d22a828b67ad", func := "ziggurat/zigguratlaw02.LimbSplits", spec := "limbSplits", inPlace := ["math/bits.Add64", "math/bits.Sub64"], apart := false }
def LimbSplitsSaid : Prop := limbSplitsRow.holds Try.pinned (OpenSpec.ofChange limbSplitsSpec)

/-- ITS FALSE NEIGHBOUR: 'it returns false'. Refute it at one input. -/
def limbSplitsWrong : ChangeSpec := { name := "limbSplits", fn := fun _ => fun
  | [d1, d2] => { results := [.lit (.bool false)], args := [d1, d2] }
  | _ => none }
def LimbSplitsWrongFalsely : Prop := limbSplitsRow.holds Try.pinned (OpenSpec.ofChange limbSplitsWrong)

/-- 'zigguratlaw05.SchoolSquares': WHATEVER THE INPUT: true; the input reads as it did. -/
def schoolSquaresSpec : ChangeSpec := { name := "schoolSquares", fn := fun _ => fun
  | [d1, d2] => { results := [.lit (.bool true)], args := [d1, d2] }
  | _ => none }
def schoolSquaresRow : OpenClaim := { program := "ythhohfgpaihngaa", sum := "97dae525638a5e34a0d7409412192ec9b2709a5a7598200c3274d22a828b67ad", func := "ziggurat/zigguratlaw05.SchoolSquares", spec := "schoolSquares", inPlace := ["math/bits.Add64"], apart := false }
def SchoolSquaresSaid : Prop := schoolSquaresRow.holds Try.pinned (OpenSpec.ofChange schoolSquaresSpec)

/-- ITS FALSE NEIGHBOUR: 'it returns false'. Refute it at one input. -/
def schoolSquaresWrong : ChangeSpec := { name := "schoolSquares", fn := fun _ => fun
  | [d1, d2] => { results := [.lit (.bool false)], args := [d1, d2] }
  | _ => none }
def SchoolSquaresWrongFalsely : Prop := schoolSquaresRow.holds Try.pinned (OpenSpec.ofChange schoolSquaresWrong)

/-- 'zigguratlaw05.SchoolLaws': WHATEVER THE INPUT: true; the input reads as it did. -/
def schoolLawsSpec : ChangeSpec := { name := "schoolLaws", fn := fun _ => fun
  | [d1, d2, d3, d4] => { results := [.lit (.bool true)], args := [d1, d2, d3, d4] }
  | _ => none }
def schoolLawsRow : OpenClaim := { program := "ythhohfgpaihngaa", sum := "97dae525638a5e34a0d7409412192ec9b2709a5a7598200c3274d22a828b67ad", func := "ziggurat/zigguratlaw05.SchoolLaws", spec := "schoolLaws", inPlace := ["math/bits.Add64"], apart := false }
def SchoolLawsSaid : Prop := schoolLawsRow.holds Try.pinned (OpenSpec.ofChange schoolLawsSpec)

/-- ITS FALSE NEIGHBOUR: 'it returns false'. Refute it at one input. -/
def schoolLawsWrong : ChangeSpec := { name := "schoolLaws", fn := fun _ => fun
  | [d1, d2, d3, d4] => { results := [.lit (.bool false)], args := [d1, d2, d3, d4] }
  | _ => none }
def SchoolLawsWrongFalsely : Prop := schoolLawsRow.holds Try.pinned (OpenSpec.ofChange schoolLawsWrong)

/-- 'zigguratlaw02.LimbAdds': WHATEVER THE INPUT: true; the input reads as it did. -/
def limbAddsSpec : ChangeSpec := { name := "limbAdds", fn := fun _ => fun
  | [d1, d2] => { results := [.lit (.bool true)], args := [d1, d2] }
  | _ => none }
def limbAddsRow : OpenClaim := { program := "ythhohfgpaihngaa", sum := "97dae525638a5e34a0d7409412192ec9b2709a5a7598200c3274d22a828b67ad", func := "ziggurat/zigguratlaw02.LimbAdds", spec := "limbAdds", inPlace := ["math/bits.Add64", "math/bits.Sub64"], apart := false }
def LimbAddsSaid : Prop := limbAddsRow.holds Try.pinned (OpenSpec.ofChange limbAddsSpec)

/-- ITS FALSE NEIGHBOUR: 'it returns false'. Refute it at one input. -/
def limbAddsWrong : ChangeSpec := { name := "limbAdds", fn := fun _ => fun
  | [d1, d2] => { results := [.lit (.bool false)], args := [d1, d2] }
  | _ => none }
def LimbAddsWrongFalsely : Prop := limbAddsRow.holds Try.pinned (OpenSpec.ofChange limbAddsWrong)

/-- 'zigguratlaw02.LimbWords': WHATEVER THE INPUT: true; the input reads as it did. -/
def limbWordsSpec : ChangeSpec := { name := "limbWords", fn := fun _ => fun
  | [d1, d2, d3] => { results := [.lit (.bool true)], args := [d1, d2, d3] }
  | _ => none }
def limbWordsRow : OpenClaim := { program := "ythhohfgpaihngaa", sum := "97dae525638a5e34a0d7409412192ec9b2709a5a7598200c3274d22a828b67ad", func := "ziggurat/zigguratlaw02.LimbWords", spec := "limbWords", inPlace := ["math/bits.Add64", "math/bits.Sub64"], apart := false }
def LimbWordsSaid : Prop := limbWordsRow.holds Try.pinned (OpenSpec.ofChange limbWordsSpec)

/-- ITS FALSE NEIGHBOUR: 'it returns false'. Refute it at one input. -/
def limbWordsWrong : ChangeSpec := { name := "limbWords", fn := fun _ => fun
  | [d1, d2, d3] => { results := [.lit (.bool false)], args := [d1, d2, d3] }
  | _ => none }
def LimbWordsWrongFalsely : Prop := limbWordsRow.holds Try.pinned (OpenSpec.ofChange limbWordsWrong)

/-- 'zigguratlaw02.LimbShifts': WHATEVER THE INPUT: true; the input reads as it did. -/
def limbShiftsSpec : ChangeSpec := { name := "limbShifts", fn := fun _ => fun
  | [d1, d2] => { results := [.lit (.bool true)], args := [d1, d2] }
  | _ => none }
def limbShiftsRow : OpenClaim := { program := "ythhohfgpaihngaa", sum := "97dae525638a5e34a0d7409412192ec9b2709a5a7598200c3274d22a828b67ad", func := "ziggurat/zigguratlaw02.LimbShifts", spec := "limbShifts", inPlace := ["math/bits.Sub64", "math/bits.Add64"], apart := false }
def LimbShiftsSaid : Prop := limbShiftsRow.holds Try.pinned (OpenSpec.ofChange limbShiftsSpec)

/-- ITS FALSE NEIGHBOUR: 'it returns false'. Refute it at one input. -/
def limbShiftsWrong : ChangeSpec := { name := "limbShifts", fn := fun _ => fun
  | [d1, d2] => { results := [.lit (.bool false)], args := [d1, d2] }
  | _ => none }
def LimbShiftsWrongFalsely : Prop := limbShiftsRow.holds Try.pinned (OpenSpec.ofChange limbShiftsWrong)

/-- 'zigguratlaw02.LimbDivs': WHATEVER THE INPUT: true; the input reads as it did. -/
def limbDivsSpec : ChangeSpec := { name := "limbDivs", fn := fun _ => fun
  | [d1, d2] => { results := [.lit (.bool true)], args := [d1, d2] }
  | _ => none }
def limbDivsRow : OpenClaim := { program := "ythhohfgpaihngaa", sum := "97dae525638a5e34a0d7409412192ec9b2709a5a7598200c3274d22a828b67ad", func := "ziggurat/zigguratlaw02.LimbDivs", spec := "limbDivs", inPlace := ["math/bits.Sub64", "math/bits.Add64"], named := ["math/bits.divideError", "math/bits.overflowError"], apart := false }
def LimbDivsSaid : Prop := limbDivsRow.holds Try.pinned (OpenSpec.ofChange limbDivsSpec)

/-- ITS FALSE NEIGHBOUR: 'it returns false'. Refute it at one input. -/
def limbDivsWrong : ChangeSpec := { name := "limbDivs", fn := fun _ => fun
  | [d1, d2] => { results := [.lit (.bool false)], args := [d1, d2] }
  | _ => none }
def LimbDivsWrongFalsely : Prop := limbDivsRow.holds Try.pinned (OpenSpec.ofChange limbDivsWrong)

/-- 'zigguratlaw02.LimbLaws': WHATEVER THE INPUT: true; the input reads as it did. -/
def limbLawsSpec : ChangeSpec := { name := "limbLaws", fn := fun _ => fun
  | [d1, d2, d3, d4] => { results := [.lit (.bool true)], args := [d1, d2, d3, d4] }
  | _ => none }
def limbLawsRow : OpenClaim := { program := "ythhohfgpaihngaa", sum := "97dae525638a5e34a0d7409412192ec9b2709a5a7598200c3274d22a828b67ad", func := "ziggurat/zigguratlaw02.LimbLaws", spec := "limbLaws", inPlace := ["math/bits.Add64", "math/bits.Sub64"], apart := false }
def LimbLawsSaid : Prop := limbLawsRow.holds Try.pinned (OpenSpec.ofChange limbLawsSpec)

/-- ITS FALSE NEIGHBOUR: 'it returns false'. Refute it at one input. -/
def limbLawsWrong : ChangeSpec := { name := "limbLaws", fn := fun _ => fun
  | [d1, d2, d3, d4] => { results := [.lit (.bool false)], args := [d1, d2, d3, d4] }
  | _ => none }
def LimbLawsWrongFalsely : Prop := limbLawsRow.holds Try.pinned (OpenSpec.ofChange limbLawsWrong)

/- THE SECOND FORM. 'bulk': how many values and letters a reading holds, each counted each time it is reached (what is shared counts as often as it is met; a slice's spare places count too). A statement '..UptoSaid' is the law's where the arguments, and the package variables that the reading takes, are together of bulk at most 1048576: NARROWER than '..Said'. Prove '..Said' where nothing that the law and all that it calls make is longer than what came in: it says more and counts as full. Else prove '..UptoSaid'. A law counts once. -/
mutual
def uptoBulk {H : Type} : DataW H → Nat
  | .lit (.string bytes) => bytes.length + 1
  | .lit _ => 1
  | .nil => 1
  | .ptr d => uptoBulk d + 1
  | .slice elems spare => uptoBulkAll elems + uptoBulkAll spare + 1
  | .agg parts => uptoBulkAll parts + 1
  | .iface _ d => uptoBulk d + 1
  | .map entries => uptoBulkEntries entries + 1
  | .held _ => 1
def uptoBulkAll {H : Type} : List (DataW H) → Nat
  | [] => 0
  | d :: r => uptoBulk d + uptoBulkAll r
def uptoBulkEntries {H : Type} : List (Lit × DataW H) → Nat
  | [] => 0
  | x :: r => uptoBulkEntry x + uptoBulkEntries r
def uptoBulkEntry {H : Type} : Lit × DataW H → Nat
  | (.string bytes, d) => bytes.length + uptoBulk d + 1
  | (_, d) => uptoBulk d + 1
 end
def uptoSmall : (H : Type) → List (DataW H) → Bool := fun _ ds => decide (uptoBulkAll ds ≤ 1048576)
def OpenSpec.upto (s : _root_.Go.ChangeSpec) : _root_.Go.OpenSpec := { _root_.Go.OpenSpec.ofChange s with cond := some uptoSmall }

/-- 'zigguratlaw05.SchoolMuls', WHERE WHAT IT READS IS OF BULK AT MOST 1048576: true; the input reads as it did. -/
def schoolMulsUptoRow : OpenClaim := { program := "ythhohfgpaihngaa", sum := "97dae525638a5e34a0d7409412192ec9b2709a5a7598200c3274d22a828b67ad", func := "ziggurat/zigguratlaw05.SchoolMuls", spec := "schoolMuls", inPlace := ["math/bits.Add64"], apart := false, narrowed := true }
def SchoolMulsUptoSaid : Prop := schoolMulsUptoRow.holds Try.pinned (OpenSpec.upto schoolMulsSpec)

/-- 'zigguratlaw02.LimbJoins', WHERE WHAT IT READS IS OF BULK AT MOST 1048576: true; the input reads as it did. -/
def limbJoinsUptoRow : OpenClaim := { program := "ythhohfgpaihngaa", sum := "97dae525638a5e34a0d7409412192ec9b2709a5a7598200c3274d22a828b67ad", func := "ziggurat/zigguratlaw02.LimbJoins", spec := "limbJoins", inPlace := ["math/bits.Add64", "math/bits.Sub64"], apart := false, narrowed := true }
def LimbJoinsUptoSaid : Prop := limbJoinsUptoRow.holds Try.pinned (OpenSpec.upto limbJoinsSpec)

/-- 'zigguratlaw05.SchoolPowers', WHERE WHAT IT READS IS OF BULK AT MOST 1048576: true; the input reads as it did. -/
def schoolPowersUptoRow : OpenClaim := { program := "ythhohfgpaihngaa", sum := "97dae525638a5e34a0d7409412192ec9b2709a5a7598200c3274d22a828b67ad", func := "ziggurat/zigguratlaw05.SchoolPowers", spec := "schoolPowers", inPlace := ["math/bits.Add64"], apart := false, narrowed := true }
def SchoolPowersUptoSaid : Prop := schoolPowersUptoRow.holds Try.pinned (OpenSpec.upto schoolPowersSpec)

/-- 'zigguratlaw02.LimbSums', WHERE WHAT IT READS IS OF BULK AT MOST 1048576: true; the input reads as it did. -/
def limbSumsUptoRow : OpenClaim := { program := "ythhohfgpaihngaa", sum := "97dae525638a5e34a0d7409412192ec9b2709a5a7598200c3274d22a828b67ad", func := "ziggurat/zigguratlaw02.LimbSums", spec := "limbSums", inPlace := ["math/bits.Add64", "math/bits.Sub64"], apart := false, narrowed := true }
def LimbSumsUptoSaid : Prop := limbSumsUptoRow.holds Try.pinned (OpenSpec.upto limbSumsSpec)

/-- 'zigguratlaw02.LimbSplits', WHERE WHAT IT READS IS OF BULK AT MOST 1048576: true; the input reads as it did. -/
def limbSplitsUptoRow : OpenClaim := { program := "ythhohfgpaihngaa", sum := "97dae525638a5e34a0d7409412192ec9b2709a5a7598200c3274d22a828b67ad", func := "ziggurat/zigguratlaw02.LimbSplits", spec := "limbSplits", inPlace := ["math/bits.Add64", "math/bits.Sub64"], apart := false, narrowed := true }
def LimbSplitsUptoSaid : Prop := limbSplitsUptoRow.holds Try.pinned (OpenSpec.upto limbSplitsSpec)

/-- 'zigguratlaw05.SchoolSquares', WHERE WHAT IT READS IS OF BULK AT MOST 1048576: true; the input reads as it did. -/
def schoolSquaresUptoRow : OpenClaim := { program := "ythhohfgpaihngaa", sum := "97dae525638a5e34a0d7409412192ec9b2709a5a7598200c3274d22a828b67ad", func := "ziggurat/zigguratlaw05.SchoolSquares", spec := "schoolSquares", inPlace := ["math/bits.Add64"], apart := false, narrowed := true }
def SchoolSquaresUptoSaid : Prop := schoolSquaresUptoRow.holds Try.pinned (OpenSpec.upto schoolSquaresSpec)

/-- 'zigguratlaw05.SchoolLaws', WHERE WHAT IT READS IS OF BULK AT MOST 1048576: true; the input reads as it did. -/
def schoolLawsUptoRow : OpenClaim := { program := "ythhohfgpaihngaa", sum := "97dae525638a5e34a0d7409412192ec9b2709a5a7598200c3274d22a828b67ad", func := "ziggurat/zigguratlaw05.SchoolLaws", spec := "schoolLaws", inPlace := ["math/bits.Add64"], apart := false, narrowed := true }
def SchoolLawsUptoSaid : Prop := schoolLawsUptoRow.holds Try.pinned (OpenSpec.upto schoolLawsSpec)

/-- 'zigguratlaw02.LimbAdds', WHERE WHAT IT READS IS OF BULK AT MOST 1048576: true; the input reads as it did. -/
def limbAddsUptoRow : OpenClaim := { program := "ythhohfgpaihngaa", sum := "97dae525638a5e34a0d7409412192ec9b2709a5a7598200c3274d22a828b67ad", func := "ziggurat/zigguratlaw02.LimbAdds", spec := "limbAdds", inPlace := ["math/bits.Add64", "math/bits.Sub64"], apart := false, narrowed := true }
def LimbAddsUptoSaid : Prop := limbAddsUptoRow.holds Try.pinned (OpenSpec.upto limbAddsSpec)

/-- 'zigguratlaw02.LimbWords', WHERE WHAT IT READS IS OF BULK AT MOST 1048576: true; the input reads as it did. -/
def limbWordsUptoRow : OpenClaim := { program := "ythhohfgpaihngaa", sum := "97dae525638a5e34a0d7409412192ec9b2709a5a7598200c3274d22a828b67ad", func := "ziggurat/zigguratlaw02.LimbWords", spec := "limbWords", inPlace := ["math/bits.Add64", "math/bits.Sub64"], apart := false, narrowed := true }
def LimbWordsUptoSaid : Prop := limbWordsUptoRow.holds Try.pinned (OpenSpec.upto limbWordsSpec)

/-- 'zigguratlaw02.LimbShifts', WHERE WHAT IT READS IS OF BULK AT MOST 1048576: true; the input reads as it did. -/
def limbShiftsUptoRow : OpenClaim := { program := "ythhohfgpaihngaa", sum := "97dae525638a5e34a0d7409412192ec9b2709a5a7598200c3274d22a828b67ad", func := "ziggurat/zigguratlaw02.LimbShifts", spec := "limbShifts", inPlace := ["math/bits.Sub64", "math/bits.Add64"], apart := false, narrowed := true }
def LimbShiftsUptoSaid : Prop := limbShiftsUptoRow.holds Try.pinned (OpenSpec.upto limbShiftsSpec)

/-- 'zigguratlaw02.LimbDivs', WHERE WHAT IT READS IS OF BULK AT MOST 1048576: true; the input reads as it did. -/
def limbDivsUptoRow : OpenClaim := { program := "ythhohfgpaihngaa", sum := "97dae525638a5e34a0d7409412192ec9b2709a5a7598200c3274d22a828b67ad", func := "ziggurat/zigguratlaw02.LimbDivs", spec := "limbDivs", inPlace := ["math/bits.Sub64", "math/bits.Add64"], named := ["math/bits.divideError", "math/bits.overflowError"], apart := false, narrowed := true }
def LimbDivsUptoSaid : Prop := limbDivsUptoRow.holds Try.pinned (OpenSpec.upto limbDivsSpec)

/-- 'zigguratlaw02.LimbLaws', WHERE WHAT IT READS IS OF BULK AT MOST 1048576: true; the input reads as it did. -/
def limbLawsUptoRow : OpenClaim := { program := "ythhohfgpaihngaa", sum := "97dae525638a5e34a0d7409412192ec9b2709a5a7598200c3274d22a828b67ad", func := "ziggurat/zigguratlaw02.LimbLaws", spec := "limbLaws", inPlace := ["math/bits.Add64", "math/bits.Sub64"], apart := false, narrowed := true }
def LimbLawsUptoSaid : Prop := limbLawsUptoRow.holds Try.pinned (OpenSpec.upto limbLawsSpec)

end Rows
end Go.Proofs.Ythhohfgpaihngaa
