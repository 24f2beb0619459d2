/- The law 'ModnCrts' returns true for every input, and changes none of its arguments (statement Rows.ModnCrtsSaid). Condition: none. -/
import Derived.Test.YticehedkalheiaaGreatDoorRows
import Derived.Test.YticehedkalheiaaGreatDoorCards
import Derived.Test.YticehedkalheiaaGreatDoorTie
import Derived.Test.YticehedkalheiaaGreatDoorGA
import Derived.Test.YticehedkalheiaaGreatDoorGB
import Derived.Test.YticehedkalheiaaGreatDoorGC
import Derived.Test.YticehedkalheiaaGreatDoorGP
import Derived.Test.YticehedkalheiaaGreatDoorGP1
import Derived.Test.YticehedkalheiaaGreatDoorGP2
import Derived.Test.YticehedkalheiaaGreatDoorGP3
import Derived.Test.YticehedkalheiaaGreatDoorGP4
import Derived.Test.YticehedkalheiaaGreatDoorGP5
import Derived.Test.YticehedkalheiaaGreatDoorGK
import Derived.Test.YticehedkalheiaaGreatDoorGQ
import Derived.Test.YticehedkalheiaaGreatDoorGS
import Derived.Test.YticehedkalheiaaGreatDoorGKA
import Derived.Test.YticehedkalheiaaGreatDoorGKC
import Derived.Test.YticehedkalheiaaGreatDoorGKE
import Derived.Test.YticehedkalheiaaGreatDoorGIA
import Derived.Test.YticehedkalheiaaGreatDoorGIB
import Derived.Test.YticehedkalheiaaGreatDoorGMA
import Derived.Test.YticehedkalheiaaGreatDoorGMB
import Derived.Test.YticehedkalheiaaGreatDoorGMC
import Derived.Test.YticehedkalheiaaGreatDoorGMD
import Derived.Test.YticehedkalheiaaGreatDoorGME
import Derived.Test.YticehedkalheiaaGreatDoorGJA
import Derived.Test.YticehedkalheiaaGreatDoorGJB
import Derived.Test.YticehedkalheiaaGreatDoorGJC
import Derived.Test.YticehedkalheiaaGreatDoorGHA
import Derived.Test.YticehedkalheiaaGreatDoorGHB
import Derived.Test.YticehedkalheiaaGreatDoorGHD
import Derived.Test.YticehedkalheiaaGreatDoorGHE
import Derived.Test.YticehedkalheiaaGreatDoorGHF
import Derived.Test.YticehedkalheiaaGreatDoorGHG
import Derived.Test.YticehedkalheiaaGreatDoorGR5
import Derived.WalkKit
import Derived.ProofKit
import Derived.OpenShut
import Derived.ShutString
import Derived.ChangeOld
import Derived.Below
import Derived.Deep.Matrix
namespace Go.Proofs.YticehedkalheiaaGreatDoor.modnCrts
open Go.ChangeShapes Go.WideShapes Go.ChangeAt Go.RowKit
open Go.ChangeMaps (open_string shut_string)
open Go.Proofs.YticehedkalheiaaGreatDoor.Zg
set_option linter.unusedVariables false

theorem own : ownKnob Tryz.prog.godebug = none := by kernel_rfl
theorem laidOut : laidOutB Tryz.prog = true := by kernel_rfl

/-! ### STEP 1: THE WALK: the Go text returns true, AND WRITES NOTHING THAT WAS THERE: 'Below w.heap.size w w'' (Derived/Below.lean: '.refl', '.alloc', '.drew', '.setCell' at a new block, '.trans'). Open each 'IsRow' by 'rcases' AHEAD of 'go_enter'; part every test ahead of the walk. -/
theorem walk (a0 : HL I11) (a1 : Option Addr) (len1 cap1 : Nat) (w : World) (hG : Gl (TW.of w)) (w1 : IsRows .u64 w a1 len1 cap1) :
    Calls Tryz.prog 17 #[.agg (encs I11 a0).toArray, .slice a1 len1 cap1] w fun e w' => e = .returned (.bool true) ∧ Below w.heap.size w w' := by
  have h := law22_ModnCrts (w := TW.of w) (t := a0) hG (argL_of w1)
  exact law_of h

/-! ### THE ROW's STEP: WRITTEN OUT: LEAVE IT -/
set_option maxRecDepth 100000 in
theorem lifted (os : Os) (started : os.Started) (H : Type) (enc : TypeId × Value → H) :
    ReturnsInHanded {} Tryz.checked os 17 .any (fun w args => (Rows.modnCrtsSpec.pre enc Tryz.prog Tryz.f17 Rows.modnCrtsRow.domain false w args ∧ laidMetH Tryz.prog Rows.modnCrtsRow.laid w) ∧ sizedMet enc Tryz.prog Tryz.f17 (OpenSpec.ofChange Rows.modnCrtsSpec) false w args) (Rows.modnCrtsSpec.post enc Tryz.prog Tryz.f17 false true false false) := by
  refine returnsInHanded_of_change_and (C := Tryz.checked) (X := fun w _ => laidMetH Tryz.prog Rows.modnCrtsRow.laid w) (fun _ _ _ hh h => h.of_heap hh) own started (by kernel_rfl) Tryz.func17
    (ChangeSpec.witness_at (enc := enc) (C := Tryz.checked) (os := os) (X := fun w _ => laidMetH Tryz.prog Rows.modnCrtsRow.laid w) false (tabWorld os) #[.agg #[.int .i64 0, .int .i64 0, .int .i64 0, .int .i64 0, .int .i64 0, .int .i64 0, .int .i64 0, .int .i64 0, .int .i64 0, .int .i64 0, .int .i64 0], .slice none 0 0] 8 rfl (by kernel_rfl) (by kernel_rfl) (by kernel_rfl) (by kernel_rfl) (by kernel_rfl) (tabWorld_metH os _)) ?_
  intro W base args ds gs before hval0 hW hcnd _ hL _
  have hG : Gl (TW.of W) := gl_ofH hL
  have hval : ∀ (j : Nat) t v, Tryz.f17.params[j]? = some t → args[j]? = some v → Value.okWide Tryz.prog W .any base t v := hval0
  have hW' := hW
  obtain ⟨p, q, hA0, hV, rfl, hfz, hnd⟩ := hW
  have hA : DataW.TrodAll enc Tryz.prog W 0 (fun _ => true) true Tryz.f17.params.toList args.toList ds p := hA0
  rw [Tryz.params17] at hA hval
  obtain ⟨v0, vs0, d0, ds0, p0, q0, hargs, rfl, rfl, h0, r0⟩ := trodAll_cons hA
  obtain ⟨v1, vs1, d1, ds1, p1, q1, rfl, rfl, rfl, h1, r1⟩ := trodAll_cons r0
  obtain ⟨rfl, rfl, rfl⟩ := trodAll_nil r1
  obtain rfl : args = #[v0, v1] := by cases args; simp_all
  obtain ⟨rfl, rfl⟩ := trodVars_none hV
  obtain ⟨a0, rfl⟩ := open_i11 Tryz.underlying23 (by kernel_rfl) (by kernel_rfl) (by kernel_rfl) (hval 0 23 v0 rfl rfl) h0
  have k0 := h0
  have lt0 : ∀ x ∈ p0, x.block < W.heap.size := by obtain ⟨m, hm⟩ := k0; exact DataW.trod_lt m _ _ _ hm
  obtain ⟨a1, len1, cap1, rfl⟩ := okWide_slice Tryz.underlying72 (hval 1 72 v1 rfl rfl)
  have k1 := h1
  have lt1 : ∀ x ∈ p1, x.block < W.heap.size := by obtain ⟨m, hm⟩ := k1; exact DataW.trod_lt m _ _ _ hm
  have w1 : IsRows .u64 W a1 len1 cap1 := by
    obtain ⟨fuel, hf⟩ := h1
    rcases Go.Deep.open_int_rows Tryz.underlying72 Tryz.underlying24 Tryz.underlying81 (by kernel_rfl) (by kernel_rfl) hf with ⟨hcs, _⟩ | ⟨x, l, c, A, L, C, Z, hcs, _, hl, hm, _, hr⟩
    · simp [Value.cells] at hcs
      obtain ⟨rfl, rfl, rfl⟩ := hcs
      exact .inl ⟨rfl, rfl, rfl⟩
    · simp [Value.cells] at hcs
      obtain ⟨rfl, rfl, rfl⟩ := hcs
      refine .inr ⟨x, A, L, C, Z, rfl, hl, hm, fun r hr1 => ?_⟩
      obtain ⟨g1, g2, g3, g4, g5, g6, g7⟩ := hr r hr1
      exact ⟨g1, isRow_of g2 g3 g4 g5 g6 fun a' ha' => (g7 a' ha').2⟩
  clear hA0 hval0
  refine (walk a0 a1 len1 cap1 W hG w1).mono fun e W' ⟨he, bel⟩ => ?_
  subst he
  exact ⟨_, rfl, _, _, _, [], _, [], hW', trodAll_mk1 (shut_bool Tryz.underlying4 _), (trodAll_cons_mk (Below.trod laidOut (by kernel_rfl) (of_decide_eq_true (by kernel_rfl)) k0 bel lt0) (trodAll_cons_mk (Below.trod laidOut (by kernel_rfl) (of_decide_eq_true (by kernel_rfl)) k1 bel lt1) trodAll_mk0)), rfl, bel.frame _, fun h => by cases h⟩

theorem fIn : (Rows.modnCrtsRow.inPlace == Tryz.prog.inPlace 17) = true := by kernel_rfl
theorem fUn : (Rows.modnCrtsRow.unfollowed == Tryz.prog.unfollowed 17) = true := by kernel_rfl
theorem fRe : (Rows.modnCrtsRow.recurses == Tryz.prog.recurses 17) = true := by kernel_rfl
theorem fNa : (Rows.modnCrtsRow.named == Tryz.prog.varsNamed 17) = true := by kernel_rfl
theorem closed : joinedFacts Tryz.prog 17 Tryz.f17 Rows.modnCrtsSpec Rows.modnCrtsRow = true :=
  joined_of (by kernel_rfl) rf_laid rf_rowed (by kernel_rfl) (by kernel_rfl) (by kernel_rfl) (by kernel_rfl) (by kernel_rfl) (by kernel_rfl) fIn fUn fRe fNa (by kernel_rfl) (by kernel_rfl) (by kernel_rfl) (by kernel_rfl) (by kernel_rfl) (by kernel_rfl) (by kernel_rfl) (by kernel_rfl) (by kernel_rfl) (by kernel_rfl) (by kernel_rfl) rf_heard rf_mayEnter (by rw [rf_lifts]; rfl) (by rw [rf_make]; rfl) (by kernel_rfl) (by kernel_rfl) (by kernel_rfl) (by kernel_rfl)
theorem goes : false = Rows.modnCrtsRow.goesBy Tryz.prog := by kernel_rfl

theorem over : Rows.modnCrtsRow.holds Tryz.pinned (OpenSpec.ofChange Rows.modnCrtsSpec) :=
  OpenClaim.holds_of_wide 17 Tryz.f17 rfl rfl rfl rfl rfl rfl rfl ⟨rfl, rfl, rfl, rfl, rfl⟩ rfl rfl rfl rfl rfl (by kernel_rfl) Tryz.func17 closed
    (of_decide_eq_true (by kernel_rfl)) (by unfold Func.isWrapper; first | (rw [if_pos (by decide +kernel)]; kernel_rfl) | (rw [if_neg (by decide +kernel)]; exact ⟨rfl, rfl⟩))
    (fun os started H enc _ => lifted os started H enc)

/-- THE STATEMENT -/
theorem proved : Rows.ModnCrtsSaid := over
/-- THE CARD: the row, its one listed variable tied to the program's text. -/
theorem card_holds : Rows.ModnCrtsCardSaid :=
  Claim7.holds_tied_plain_at .later [] [.data] true (true, "ef2060b0714d6729fe8d66c6524c6a431ad9733d15524ef4e2d44fd243cd53c9") false
    proved (fun _ h => by cases h) (by kernel_rfl) (fun _ h => by cases h) modnCrts_row_tie rfl ⟨rfl, rfl⟩ rf_main rfl
    (fun f fn hf hfn => by
      obtain rfl : f = 17 := Option.some.inj ((show Tryz.prog.funcNamed "ziggurat/zigguratlaw22.ModnCrts" = some 17 by kernel_rfl).symm.trans hf) |>.symm
      obtain rfl : fn = Tryz.f17 := (Option.some.inj (Tryz.func17.symm.trans hfn)).symm
      exact ⟨rf_looks.symm, fun j t ht => by
        rw [Tryz.params17] at ht
        have hm := List.mem_of_getElem? ((Array.getElem?_toList ..).trans ht)
        simp only [List.mem_cons, List.not_mem_nil, or_false] at hm
        rcases hm with rfl | rfl
        · exact (show Tryz.prog.wantsStandIn 23 = false by kernel_rfl)
        · exact (show Tryz.prog.wantsStandIn 72 = false by kernel_rfl)⟩)
    goes
end Go.Proofs.YticehedkalheiaaGreatDoor.modnCrts
