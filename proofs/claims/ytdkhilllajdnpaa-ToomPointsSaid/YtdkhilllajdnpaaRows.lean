/-
  No cell of these rows narrows 'for every input' (looked for: loops, veiled, ifaces, maps, wideKeys, modest, calm, conditions, laid).
  DERIVED. THE GIVEN ROWS OF THIS SEAT. 7 by the template 'for every input the law returns true; each argument reads behind the call as it read before'; 0 by the template 'total and deterministic' (their statements: YtdkhilllajdnpaaTotals.lean).
  GIVEN WITH THE SEED: the statements are not yours to turn. If you find one false, say at which input.
  Laid BY PROGRAM, IN A SANDBOX (cutbox-rows.mjs): the forced cells as the released guide's own fill.sh prints them over the translation afda924797ac663b… (all of the seat's roots in one cut). By AI agents, Wed Nov 11 2026. No macro, syntax, notation, axiom, sorry.
-/
import Derived.Test.YtdkhilllajdnpaaChecked
import GoSem.Claim
import GoSem.ClaimJoined
import GoSem.ClaimMapViews
import Derived.JoinedTies
import Derived.KernelRfl
namespace Go.Proofs.Ytdkhilllajdnpaa
/- THE CELL 'sum', in the pinned program and in every row, IS THE sha256 OF THE DUMP (.gsa) THAT YtdkhilllajdnpaaProg.lean LOADS. Nothing in Lean hashes anything: it is a label: what it is worth is what the hold of that sum in a sandbox is worth. -/
noncomputable def Try.pinned : Pinned := { name := "ytdkhilllajdnpaa", sum := "afda924797ac663bf40e88f4ac31603068ab12cd56cb861e90bd4f0f86d278ee", checked := Try.checked }
namespace Rows
def none {H : Type} : Left H := { results := [], args := [] }

/-- 'zigguratlaw11.ToomThirds': WHATEVER THE INPUT: true; the input reads as it did. -/
def toomThirdsSpec : ChangeSpec := { name := "toomThirds", fn := fun _ => fun
  | [d1, d2] => { results := [.lit (.bool true)], args := [d1, d2] }
  | _ => none }
def toomThirdsRow : OpenClaim := { program := "ytdkhilllajdnpaa", sum := "afda924797ac663bf40e88f4ac31603068ab12cd56cb861e90bd4f0f86d278ee", func := "ziggurat/zigguratlaw11.ToomThirds", spec := "toomThirds", inPlace := ["math/bits.Sub64"], apart := false }
def ToomThirdsSaid : Prop := toomThirdsRow.holds Try.pinned (OpenSpec.ofChange toomThirdsSpec)

/-- ITS FALSE NEIGHBOUR: 'it returns false'. Refute it at one input. -/
def toomThirdsWrong : ChangeSpec := { name := "toomThirds", fn := fun _ => fun
  | [d1, d2] => { results := [.lit (.bool false)], args := [d1, d2] }
  | _ => none }
def ToomThirdsWrongFalsely : Prop := toomThirdsRow.holds Try.pinned (OpenSpec.ofChange toomThirdsWrong)

/-- 'zigguratlaw11.ToomPoints': WHATEVER THE INPUT: true; the input reads as it did. -/
def toomPointsSpec : ChangeSpec := { name := "toomPoints", fn := fun _ => fun
  | [d1, d2] => { results := [.lit (.bool true)], args := [d1, d2] }
  | _ => none }
def toomPointsRow : OpenClaim := { program := "ytdkhilllajdnpaa", sum := "afda924797ac663bf40e88f4ac31603068ab12cd56cb861e90bd4f0f86d278ee", func := "ziggurat/zigguratlaw11.ToomPoints", spec := "toomPoints", inPlace := ["math/bits.Add64", "math/bits.Sub64"], apart := false }
def ToomPointsSaid : Prop := toomPointsRow.holds Try.pinned (OpenSpec.ofChange toomPointsSpec)

/-- ITS FALSE NEIGHBOUR: 'it returns false'. Refute it at one input. -/
def toomPointsWrong : ChangeSpec := { name := "toomPoints", fn := fun _ => fun
  | [d1, d2] => { results := [.lit (.bool false)], args := [d1, d2] }
  | _ => none }
def ToomPointsWrongFalsely : Prop := toomPointsRow.holds Try.pinned (OpenSpec.ofChange toomPointsWrong)

/-- 'zigguratlaw10.KaraBoth': WHATEVER THE INPUT: true; the input reads as it did. -/
def karaBothSpec : ChangeSpec := { name := "karaBoth", fn := fun _ => fun
  | [d1, d2, d3] => { results := [.lit (.bool true)], args := [d1, d2, d3] }
  | _ => none }
def karaBothRow : OpenClaim := { program := "ytdkhilllajdnpaa", sum := "afda924797ac663bf40e88f4ac31603068ab12cd56cb861e90bd4f0f86d278ee", func := "ziggurat/zigguratlaw10.KaraBoth", spec := "karaBoth", inPlace := ["math/bits.Add64", "math/bits.Sub64"], unfollowed := true, recurses := true, apart := false }
def KaraBothSaid : Prop := karaBothRow.holds Try.pinned (OpenSpec.ofChange karaBothSpec)

/-- ITS FALSE NEIGHBOUR: 'it returns false'. Refute it at one input. -/
def karaBothWrong : ChangeSpec := { name := "karaBoth", fn := fun _ => fun
  | [d1, d2, d3] => { results := [.lit (.bool false)], args := [d1, d2, d3] }
  | _ => none }
def KaraBothWrongFalsely : Prop := karaBothRow.holds Try.pinned (OpenSpec.ofChange karaBothWrong)

/-- 'zigguratlaw11.ToomBelow': WHATEVER THE INPUT: true; the input reads as it did. -/
def toomBelowSpec : ChangeSpec := { name := "toomBelow", fn := fun _ => fun
  | [d1, d2, d3] => { results := [.lit (.bool true)], args := [d1, d2, d3] }
  | _ => none }
def toomBelowRow : OpenClaim := { program := "ytdkhilllajdnpaa", sum := "afda924797ac663bf40e88f4ac31603068ab12cd56cb861e90bd4f0f86d278ee", func := "ziggurat/zigguratlaw11.ToomBelow", spec := "toomBelow", inPlace := ["math/bits.Add64", "math/bits.Sub64"], unfollowed := true, recurses := true, apart := false }
def ToomBelowSaid : Prop := toomBelowRow.holds Try.pinned (OpenSpec.ofChange toomBelowSpec)

/-- ITS FALSE NEIGHBOUR: 'it returns false'. Refute it at one input. -/
def toomBelowWrong : ChangeSpec := { name := "toomBelow", fn := fun _ => fun
  | [d1, d2, d3] => { results := [.lit (.bool false)], args := [d1, d2, d3] }
  | _ => none }
def ToomBelowWrongFalsely : Prop := toomBelowRow.holds Try.pinned (OpenSpec.ofChange toomBelowWrong)

/-- 'zigguratlaw10.KaraGreat': WHATEVER THE INPUT: true; the input reads as it did. -/
def karaGreatSpec : ChangeSpec := { name := "karaGreat", fn := fun _ => fun
  | [d1, d2, d3] => { results := [.lit (.bool true)], args := [d1, d2, d3] }
  | _ => none }
def karaGreatRow : OpenClaim := { program := "ytdkhilllajdnpaa", sum := "afda924797ac663bf40e88f4ac31603068ab12cd56cb861e90bd4f0f86d278ee", func := "ziggurat/zigguratlaw10.KaraGreat", spec := "karaGreat", inPlace := ["math/bits.Add64", "math/bits.Sub64"], unfollowed := true, recurses := true, apart := false }
def KaraGreatSaid : Prop := karaGreatRow.holds Try.pinned (OpenSpec.ofChange karaGreatSpec)

/-- ITS FALSE NEIGHBOUR: 'it returns false'. Refute it at one input. -/
def karaGreatWrong : ChangeSpec := { name := "karaGreat", fn := fun _ => fun
  | [d1, d2, d3] => { results := [.lit (.bool false)], args := [d1, d2, d3] }
  | _ => none }
def KaraGreatWrongFalsely : Prop := karaGreatRow.holds Try.pinned (OpenSpec.ofChange karaGreatWrong)

/-- 'zigguratlaw10.KaraHands': WHATEVER THE INPUT: true; the input reads as it did. -/
def karaHandsSpec : ChangeSpec := { name := "karaHands", fn := fun _ => fun
  | [d1, d2, d3] => { results := [.lit (.bool true)], args := [d1, d2, d3] }
  | _ => none }
def karaHandsRow : OpenClaim := { program := "ytdkhilllajdnpaa", sum := "afda924797ac663bf40e88f4ac31603068ab12cd56cb861e90bd4f0f86d278ee", func := "ziggurat/zigguratlaw10.KaraHands", spec := "karaHands", inPlace := ["math/bits.Add64", "math/bits.Sub64"], unfollowed := true, recurses := true, apart := false }
def KaraHandsSaid : Prop := karaHandsRow.holds Try.pinned (OpenSpec.ofChange karaHandsSpec)

/-- ITS FALSE NEIGHBOUR: 'it returns false'. Refute it at one input. -/
def karaHandsWrong : ChangeSpec := { name := "karaHands", fn := fun _ => fun
  | [d1, d2, d3] => { results := [.lit (.bool false)], args := [d1, d2, d3] }
  | _ => none }
def KaraHandsWrongFalsely : Prop := karaHandsRow.holds Try.pinned (OpenSpec.ofChange karaHandsWrong)

/-- 'zigguratlaw11.ToomGreat': WHATEVER THE INPUT: true; the input reads as it did. -/
def toomGreatSpec : ChangeSpec := { name := "toomGreat", fn := fun _ => fun
  | [d1, d2, d3, d4] => { results := [.lit (.bool true)], args := [d1, d2, d3, d4] }
  | _ => none }
def toomGreatRow : OpenClaim := { program := "ytdkhilllajdnpaa", sum := "afda924797ac663bf40e88f4ac31603068ab12cd56cb861e90bd4f0f86d278ee", func := "ziggurat/zigguratlaw11.ToomGreat", spec := "toomGreat", inPlace := ["math/bits.Add64", "math/bits.Sub64"], unfollowed := true, recurses := true, apart := false }
def ToomGreatSaid : Prop := toomGreatRow.holds Try.pinned (OpenSpec.ofChange toomGreatSpec)

/-- ITS FALSE NEIGHBOUR: 'it returns false'. Refute it at one input. -/
def toomGreatWrong : ChangeSpec := { name := "toomGreat", fn := fun _ => fun
  | [d1, d2, d3, d4] => { results := [.lit (.bool false)], args := [d1, d2, d3, d4] }
  | _ => none }
def ToomGreatWrongFalsely : Prop := toomGreatRow.holds Try.pinned (OpenSpec.ofChange toomGreatWrong)

/- THE SECOND FORM. 'bulk': how many values and letters a reading holds, each counted each time it is reached (what is shared counts as often as it is met; a slice's spare places count too). A statement '..UptoSaid' is the law's where the arguments, and the package variables that the reading takes, are together of bulk at most 1048576: NARROWER than '..Said'. Prove '..Said' where nothing that the law and all that it calls make is longer than what came in: it says more and counts as full. Else prove '..UptoSaid'. A law counts once. -/
mutual
def uptoBulk {H : Type} : DataW H → Nat
  | .lit (.string bytes) => bytes.length + 1
  | .lit _ => 1
  | .nil => 1
  | .ptr d => uptoBulk d + 1
  | .slice elems spare => uptoBulkAll elems + uptoBulkAll spare + 1
  | .agg parts => uptoBulkAll parts + 1
  | .iface _ d => uptoBulk d + 1
  | .map entries => uptoBulkEntries entries + 1
  | .held _ => 1
def uptoBulkAll {H : Type} : List (DataW H) → Nat
  | [] => 0
  | d :: r => uptoBulk d + uptoBulkAll r
def uptoBulkEntries {H : Type} : List (Lit × DataW H) → Nat
  | [] => 0
  | x :: r => uptoBulkEntry x + uptoBulkEntries r
def uptoBulkEntry {H : Type} : Lit × DataW H → Nat
  | (.string bytes, d) => bytes.length + uptoBulk d + 1
  | (_, d) => uptoBulk d + 1
 end
def uptoSmall : (H : Type) → List (DataW H) → Bool := fun _ ds => decide (uptoBulkAll ds ≤ 1048576)
def OpenSpec.upto (s : _root_.Go.ChangeSpec) : _root_.Go.OpenSpec := { _root_.Go.OpenSpec.ofChange s with cond := some uptoSmall }

/-- 'zigguratlaw11.ToomThirds', WHERE WHAT IT READS IS OF BULK AT MOST 1048576: true; the input reads as it did. -/
def toomThirdsUptoRow : OpenClaim := { program := "ytdkhilllajdnpaa", sum := "afda924797ac663bf40e88f4ac31603068ab12cd56cb861e90bd4f0f86d278ee", func := "ziggurat/zigguratlaw11.ToomThirds", spec := "toomThirds", inPlace := ["math/bits.Sub64"], apart := false, narrowed := true }
def ToomThirdsUptoSaid : Prop := toomThirdsUptoRow.holds Try.pinned (OpenSpec.upto toomThirdsSpec)

/-- 'zigguratlaw11.ToomPoints', WHERE WHAT IT READS IS OF BULK AT MOST 1048576: true; the input reads as it did. -/
def toomPointsUptoRow : OpenClaim := { program := "ytdkhilllajdnpaa", sum := "afda924797ac663bf40e88f4ac31603068ab12cd56cb861e90bd4f0f86d278ee", func := "ziggurat/zigguratlaw11.ToomPoints", spec := "toomPoints", inPlace := ["math/bits.Add64", "math/bits.Sub64"], apart := false, narrowed := true }
def ToomPointsUptoSaid : Prop := toomPointsUptoRow.holds Try.pinned (OpenSpec.upto toomPointsSpec)

/-- 'zigguratlaw10.KaraBoth', WHERE WHAT IT READS IS OF BULK AT MOST 1048576: true; the input reads as it did. -/
def karaBothUptoRow : OpenClaim := { program := "ytdkhilllajdnpaa", sum := "afda924797ac663bf40e88f4ac31603068ab12cd56cb861e90bd4f0f86d278ee", func := "ziggurat/zigguratlaw10.KaraBoth", spec := "karaBoth", inPlace := ["math/bits.Add64", "math/bits.Sub64"], unfollowed := true, recurses := true, apart := false, narrowed := true }
def KaraBothUptoSaid : Prop := karaBothUptoRow.holds Try.pinned (OpenSpec.upto karaBothSpec)

/-- 'zigguratlaw11.ToomBelow', WHERE WHAT IT READS IS OF BULK AT MOST 1048576: true; the input reads as it did. -/
def toomBelowUptoRow : OpenClaim := { program := "ytdkhilllajdnpaa", sum := "afda924797ac663bf40e88f4ac31603068ab12cd56cb861e90bd4f0f86d278ee", func := "ziggurat/zigguratlaw11.ToomBelow", spec := "toomBelow", inPlace := ["math/bits.Add64", "math/bits.Sub64"], unfollowed := true, recurses := true, apart := false, narrowed := true }
def ToomBelowUptoSaid : Prop := toomBelowUptoRow.holds Try.pinned (OpenSpec.upto toomBelowSpec)

/-- 'zigguratlaw10.KaraGreat', WHERE WHAT IT READS IS OF BULK AT MOST 1048576: true; the input reads as it did. -/
def karaGreatUptoRow : OpenClaim := { program := "ytdkhilllajdnpaa", sum := "afda924797ac663bf40e88f4ac31603068ab12cd56cb861e90bd4f0f86d278ee", func := "ziggurat/zigguratlaw10.KaraGreat", spec := "karaGreat", inPlace := ["math/bits.Add64", "math/bits.Sub64"], unfollowed := true, recurses := true, apart := false, narrowed := true }
def KaraGreatUptoSaid : Prop := karaGreatUptoRow.holds Try.pinned (OpenSpec.upto karaGreatSpec)

/-- 'zigguratlaw10.KaraHands', WHERE WHAT IT READS IS OF BULK AT MOST 1048576: true; the input reads as it did. -/
def karaHandsUptoRow : OpenClaim := { program := "ytdkhilllajdnpaa", sum := "afda924797ac663bf40e88f4ac31603068ab12cd56cb861e90bd4f0f86d278ee", func := "ziggurat/zigguratlaw10.KaraHands", spec := "karaHands", inPlace := ["math/bits.Add64", "math/bits.Sub64"], unfollowed := true, recurses := true, apart := false, narrowed := true }
def KaraHandsUptoSaid : Prop := karaHandsUptoRow.holds Try.pinned (OpenSpec.upto karaHandsSpec)

/-- 'zigguratlaw11.ToomGreat', WHERE WHAT IT READS IS OF BULK AT MOST 1048576: true; the input reads as it did. -/
def toomGreatUptoRow : OpenClaim := { program := "ytdkhilllajdnpaa", sum := "afda924797ac663bf40e88f4ac31603068ab12cd56cb861e90bd4f0f86d278ee", func := "ziggurat/zigguratlaw11.ToomGreat", spec := "toomGreat", inPlace := ["math/bits.Add64", "math/bits.Sub64"], unfollowed := true, recurses := true, apart := false, narrowed := true }
def ToomGreatUptoSaid : Prop := toomGreatUptoRow.holds Try.pinned (OpenSpec.upto toomGreatSpec)

end Rows
end Go.Proofs.Ytdkhilllajdnpaa
