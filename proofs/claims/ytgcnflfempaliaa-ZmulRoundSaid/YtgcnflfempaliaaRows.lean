/-
  No cell of these rows narrows 'for every input' (looked for: loops, veiled, ifaces, maps, wideKeys, modest, calm, conditions, laid).
  DERIVED. THE GIVEN ROWS OF THIS SEAT. 3 by the template 'for every input the law returns true; each argument reads behind the call as it read before'; 0 by the template 'total and deterministic' (their statements: YtgcnflfempaliaaTotals.lean).
  GIVEN WITH THE SEED: the statements are not yours to turn. If you find one false, say at which input.
  Laid BY PROGRAM, IN A SANDBOX (cutbox-rows.mjs): the forced cells as the released guide's own fill.sh prints them over the translation 97c1695f1dcd1e5a… (all of the seat's roots in one cut). By AI agents, Wed Nov 11 2026. No macro, syntax, notation, axiom, sorry.
-/
import Derived.Test.YtgcnflfempaliaaChecked
import GoSem.Claim
import GoSem.ClaimJoined
import GoSem.ClaimMapViews
import Derived.JoinedTies
import Derived.KernelRfl
namespace Go.Proofs.Ytgcnflfempaliaa
/- THE CELL 'sum', in the pinned program and in every row, IS THE sha256 OF THE DUMP (.gsa) THAT YtgcnflfempaliaaProg.lean LOADS. Nothing in Lean hashes anything: it is a label: what it is worth is what the hold of that sum in a sandbox is worth. -/
noncomputable def Try.pinned : Pinned := { name := "ytgcnflfempaliaa", sum := "97c1695f1dcd1e5aa4dca2717dac9642c9168cc1de604bb00602984bf6082174", checked := Try.checked }
namespace Rows
def none {H : Type} : Left H := { results := [], args := [] }

/-- 'zigguratlaw29.ZmulUnpacks': WHATEVER THE INPUT: true; the input reads as it did. -/
def zmulUnpacksSpec : ChangeSpec := { name := "zmulUnpacks", fn := fun _ => fun
  | [d1, d2, d3] => { results := [.lit (.bool true)], args := [d1, d2, d3] }
  | _ => none }
def zmulUnpacksRow : OpenClaim := { program := "ytgcnflfempaliaa", sum := "97c1695f1dcd1e5aa4dca2717dac9642c9168cc1de604bb00602984bf6082174", func := "ziggurat/zigguratlaw29.ZmulUnpacks", spec := "zmulUnpacks", inPlace := ["math/bits.Add64", "math/bits.Sub64"], apart := false }
def ZmulUnpacksSaid : Prop := zmulUnpacksRow.holds Try.pinned (OpenSpec.ofChange zmulUnpacksSpec)

/-- ITS FALSE NEIGHBOUR: 'it returns false'. Refute it at one input. -/
def zmulUnpacksWrong : ChangeSpec := { name := "zmulUnpacks", fn := fun _ => fun
  | [d1, d2, d3] => { results := [.lit (.bool false)], args := [d1, d2, d3] }
  | _ => none }
def ZmulUnpacksWrongFalsely : Prop := zmulUnpacksRow.holds Try.pinned (OpenSpec.ofChange zmulUnpacksWrong)

/-- 'zigguratlaw29.ZmulPacks': WHATEVER THE INPUT: true; the input reads as it did. -/
def zmulPacksSpec : ChangeSpec := { name := "zmulPacks", fn := fun _ => fun
  | [d1, d2, d3] => { results := [.lit (.bool true)], args := [d1, d2, d3] }
  | _ => none }
def zmulPacksRow : OpenClaim := { program := "ytgcnflfempaliaa", sum := "97c1695f1dcd1e5aa4dca2717dac9642c9168cc1de604bb00602984bf6082174", func := "ziggurat/zigguratlaw29.ZmulPacks", spec := "zmulPacks", inPlace := ["math/bits.Add64", "math/bits.Sub64"], recurses := true, apart := false }
def ZmulPacksSaid : Prop := zmulPacksRow.holds Try.pinned (OpenSpec.ofChange zmulPacksSpec)

/-- ITS FALSE NEIGHBOUR: 'it returns false'. Refute it at one input. -/
def zmulPacksWrong : ChangeSpec := { name := "zmulPacks", fn := fun _ => fun
  | [d1, d2, d3] => { results := [.lit (.bool false)], args := [d1, d2, d3] }
  | _ => none }
def ZmulPacksWrongFalsely : Prop := zmulPacksRow.holds Try.pinned (OpenSpec.ofChange zmulPacksWrong)

/-- 'zigguratlaw29.ZmulRound': WHATEVER THE INPUT: true; the input reads as it did. -/
def zmulRoundSpec : ChangeSpec := { name := "zmulRound", fn := fun _ => fun
  | [d1, d2, d3] => { results := [.lit (.bool true)], args := [d1, d2, d3] }
  | _ => none }
def zmulRoundRow : OpenClaim := { program := "ytgcnflfempaliaa", sum := "97c1695f1dcd1e5aa4dca2717dac9642c9168cc1de604bb00602984bf6082174", func := "ziggurat/zigguratlaw29.ZmulRound", spec := "zmulRound", inPlace := ["math/bits.Add64", "math/bits.Sub64"], recurses := true, apart := false }
def ZmulRoundSaid : Prop := zmulRoundRow.holds Try.pinned (OpenSpec.ofChange zmulRoundSpec)

/-- ITS FALSE NEIGHBOUR: 'it returns false'. Refute it at one input. -/
def zmulRoundWrong : ChangeSpec := { name := "zmulRound", fn := fun _ => fun
  | [d1, d2, d3] => { results := [.lit (.bool false)], args := [d1, d2, d3] }
  | _ => none }
def ZmulRoundWrongFalsely : Prop := zmulRoundRow.holds Try.pinned (OpenSpec.ofChange zmulRoundWrong)

/- THE SECOND FORM. 'bulk': how many values and letters a reading holds, each counted each time it is reached (what is shared counts as often as it is met; a slice's spare places count too). A statement '..UptoSaid' is the law's where the arguments, and the package variables that the reading takes, are together of bulk at most 1048576: NARROWER than '..Said'. Prove '..Said' where nothing that the law and all that it calls make is longer than what came in: it says more and counts as full. Else prove '..UptoSaid'. A law counts once. -/
mutual
def uptoBulk {H : Type} : DataW H → Nat
  | .lit (.string bytes) => bytes.length + 1
  | .lit _ => 1
  | .nil => 1
  | .ptr d => uptoBulk d + 1
  | .slice elems spare => uptoBulkAll elems + uptoBulkAll spare + 1
  | .agg parts => uptoBulkAll parts + 1
  | .iface _ d => uptoBulk d + 1
  | .map entries => uptoBulkEntries entries + 1
  | .held _ => 1
def uptoBulkAll {H : Type} : List (DataW H) → Nat
  | [] => 0
  | d :: r => uptoBulk d + uptoBulkAll r
def uptoBulkEntries {H : Type} : List (Lit × DataW H) → Nat
  | [] => 0
  | x :: r => uptoBulkEntry x + uptoBulkEntries r
def uptoBulkEntry {H : Type} : Lit × DataW H → Nat
  | (.string bytes, d) => bytes.length + uptoBulk d + 1
  | (_, d) => uptoBulk d + 1
 end
def uptoSmall : (H : Type) → List (DataW H) → Bool := fun _ ds => decide (uptoBulkAll ds ≤ 1048576)
def OpenSpec.upto (s : _root_.Go.ChangeSpec) : _root_.Go.OpenSpec := { _root_.Go.OpenSpec.ofChange s with cond := some uptoSmall }

/-- 'zigguratlaw29.ZmulUnpacks', WHERE WHAT IT READS IS OF BULK AT MOST 1048576: true; the input reads as it did. -/
def zmulUnpacksUptoRow : OpenClaim := { program := "ytgcnflfempaliaa", sum := "97c1695f1dcd1e5aa4dca2717dac9642c9168cc1de604bb00602984bf6082174", func := "ziggurat/zigguratlaw29.ZmulUnpacks", spec := "zmulUnpacks", inPlace := ["math/bits.Add64", "math/bits.Sub64"], apart := false, narrowed := true }
def ZmulUnpacksUptoSaid : Prop := zmulUnpacksUptoRow.holds Try.pinned (OpenSpec.upto zmulUnpacksSpec)

/-- 'zigguratlaw29.ZmulPacks', WHERE WHAT IT READS IS OF BULK AT MOST 1048576: true; the input reads as it did. -/
def zmulPacksUptoRow : OpenClaim := { program := "ytgcnflfempaliaa", sum := "97c1695f1dcd1e5aa4dca2717dac9642c9168cc1de604bb00602984bf6082174", func := "ziggurat/zigguratlaw29.ZmulPacks", spec := "zmulPacks", inPlace := ["math/bits.Add64", "math/bits.Sub64"], recurses := true, apart := false, narrowed := true }
def ZmulPacksUptoSaid : Prop := zmulPacksUptoRow.holds Try.pinned (OpenSpec.upto zmulPacksSpec)

/-- 'zigguratlaw29.ZmulRound', WHERE WHAT IT READS IS OF BULK AT MOST 1048576: true; the input reads as it did. -/
def zmulRoundUptoRow : OpenClaim := { program := "ytgcnflfempaliaa", sum := "97c1695f1dcd1e5aa4dca2717dac9642c9168cc1de604bb00602984bf6082174", func := "ziggurat/zigguratlaw29.ZmulRound", spec := "zmulRound", inPlace := ["math/bits.Add64", "math/bits.Sub64"], recurses := true, apart := false, narrowed := true }
def ZmulRoundUptoSaid : Prop := zmulRoundUptoRow.holds Try.pinned (OpenSpec.upto zmulRoundSpec)

end Rows
end Go.Proofs.Ytgcnflfempaliaa
