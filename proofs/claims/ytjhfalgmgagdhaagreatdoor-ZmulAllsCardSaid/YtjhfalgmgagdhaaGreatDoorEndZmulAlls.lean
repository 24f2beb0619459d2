/- The law 'ZmulAlls' returns true for every input, and changes none of its arguments (statement Rows.ZmulAllsSaid). Condition: none. -/
import Derived.Test.YtjhfalgmgagdhaaGreatDoorRows
import Derived.Test.YtjhfalgmgagdhaaGreatDoorCards
import Derived.Test.YtjhfalgmgagdhaaGreatDoorTie
import Derived.Test.YtjhfalgmgagdhaaGreatDoorGA
import Derived.Test.YtjhfalgmgagdhaaGreatDoorGB
import Derived.Test.YtjhfalgmgagdhaaGreatDoorGC
import Derived.Test.YtjhfalgmgagdhaaGreatDoorGP
import Derived.Test.YtjhfalgmgagdhaaGreatDoorGP1
import Derived.Test.YtjhfalgmgagdhaaGreatDoorGP2
import Derived.Test.YtjhfalgmgagdhaaGreatDoorGP3
import Derived.Test.YtjhfalgmgagdhaaGreatDoorGP4
import Derived.Test.YtjhfalgmgagdhaaGreatDoorGP5
import Derived.Test.YtjhfalgmgagdhaaGreatDoorGK
import Derived.Test.YtjhfalgmgagdhaaGreatDoorGQ
import Derived.Test.YtjhfalgmgagdhaaGreatDoorGS
import Derived.Test.YtjhfalgmgagdhaaGreatDoorGKA
import Derived.Test.YtjhfalgmgagdhaaGreatDoorGKC
import Derived.Test.YtjhfalgmgagdhaaGreatDoorGKE
import Derived.Test.YtjhfalgmgagdhaaGreatDoorGIA
import Derived.Test.YtjhfalgmgagdhaaGreatDoorGIB
import Derived.Test.YtjhfalgmgagdhaaGreatDoorGMA
import Derived.Test.YtjhfalgmgagdhaaGreatDoorGMB
import Derived.Test.YtjhfalgmgagdhaaGreatDoorGMC
import Derived.Test.YtjhfalgmgagdhaaGreatDoorGMD
import Derived.Test.YtjhfalgmgagdhaaGreatDoorGME
import Derived.Test.YtjhfalgmgagdhaaGreatDoorGJA
import Derived.Test.YtjhfalgmgagdhaaGreatDoorGJB
import Derived.Test.YtjhfalgmgagdhaaGreatDoorGJC
import Derived.Test.YtjhfalgmgagdhaaGreatDoorGHA
import Derived.Test.YtjhfalgmgagdhaaGreatDoorGHD
import Derived.Test.YtjhfalgmgagdhaaGreatDoorGHE
import Derived.Test.YtjhfalgmgagdhaaGreatDoorGHG
import Derived.Test.YtjhfalgmgagdhaaGreatDoorGR5
import Derived.Test.YtjhfalgmgagdhaaGreatDoorGNA
import Derived.Test.YtjhfalgmgagdhaaGreatDoorGNB
import Derived.Test.YtjhfalgmgagdhaaGreatDoorGNC
import Derived.Test.YtjhfalgmgagdhaaGreatDoorGND
import Derived.Test.YtjhfalgmgagdhaaGreatDoorGNE
import Derived.Test.YtjhfalgmgagdhaaGreatDoorGNF
import Derived.Test.YtjhfalgmgagdhaaGreatDoorGNG
import Derived.WalkKit
import Derived.ProofKit
import Derived.OpenShut
import Derived.ShutString
import Derived.ChangeOld
import Derived.Below
namespace Go.Proofs.YtjhfalgmgagdhaaGreatDoor.zmulAlls
open Go.ChangeShapes Go.WideShapes Go.ChangeAt Go.RowKit
open Go.ChangeMaps (open_string shut_string)
open Go.Proofs.YtjhfalgmgagdhaaGreatDoor.Zg
set_option linter.unusedVariables false

theorem own : ownKnob Tryz.prog.godebug = none := by kernel_rfl
theorem laidOut : laidOutB Tryz.prog = true := by kernel_rfl

/-! ### STEP 1: THE WALK: the Go text returns true, AND WRITES NOTHING THAT WAS THERE: 'Below w.heap.size w w'' (Derived/Below.lean: '.refl', '.alloc', '.drew', '.setCell' at a new block, '.trans'). Open each 'IsRow' by 'rcases' AHEAD of 'go_enter'; part every test ahead of the walk. -/
theorem walk (a0 : HL I11) (a1 : Option Addr) (len1 cap1 : Nat) (a2 : Option Addr) (len2 cap2 : Nat) (a3 : Option Addr) (len3 cap3 : Nat) (a4 : Int) (w : World) (hG : Gl (TW.of w)) (w1 : IsInts w a1 len1 cap1) (w2 : IsInts w a2 len2 cap2) (w3 : IsInts w a3 len3 cap3) (w4 : (Lit.int .i64 a4).wf = true) :
    Calls Tryz.prog 6 #[.agg (encs I11 a0).toArray, .slice a1 len1 cap1, .slice a2 len2 cap2, .slice a3 len3 cap3, .int .i64 a4] w fun e w' => e = .returned (.bool true) ∧ Below w.heap.size w w' := by
  obtain ⟨zz1, hz1⟩ := argI_of w1
  obtain ⟨zz2, hz2⟩ := argI_of w2
  obtain ⟨zz3, hz3⟩ := argI_of w3
  have h := law29_ZmulAlls (w := TW.of w) (t := a0) hG hz1 hz2 hz3 (i64_of w4)
  exact law_of h

/-! ### THE ROW's STEP: WRITTEN OUT: LEAVE IT -/
set_option maxRecDepth 100000 in
theorem lifted (os : Os) (started : os.Started) (H : Type) (enc : TypeId × Value → H) :
    ReturnsInHanded {} Tryz.checked os 6 .any (fun w args => (Rows.zmulAllsSpec.pre enc Tryz.prog Tryz.f6 Rows.zmulAllsRow.domain false w args ∧ laidMetH Tryz.prog Rows.zmulAllsRow.laid w) ∧ sizedMet enc Tryz.prog Tryz.f6 (OpenSpec.ofChange Rows.zmulAllsSpec) false w args) (Rows.zmulAllsSpec.post enc Tryz.prog Tryz.f6 false true false false) := by
  refine returnsInHanded_of_change_and (C := Tryz.checked) (X := fun w _ => laidMetH Tryz.prog Rows.zmulAllsRow.laid w) (fun _ _ _ hh h => h.of_heap hh) own started (by kernel_rfl) Tryz.func6
    (ChangeSpec.witness_at (enc := enc) (C := Tryz.checked) (os := os) (X := fun w _ => laidMetH Tryz.prog Rows.zmulAllsRow.laid w) false (tabWorld os) #[.agg #[.int .i64 0, .int .i64 0, .int .i64 0, .int .i64 0, .int .i64 0, .int .i64 0, .int .i64 0, .int .i64 0, .int .i64 0, .int .i64 0, .int .i64 0], .slice none 0 0, .slice none 0 0, .slice none 0 0, .int .i64 0] 8 rfl (by kernel_rfl) (by kernel_rfl) (by kernel_rfl) (by kernel_rfl) (by kernel_rfl) (tabWorld_metH os _)) ?_
  intro W base args ds gs before hval0 hW hcnd _ hL _
  have hG : Gl (TW.of W) := gl_ofH hL
  have hval : ∀ (j : Nat) t v, Tryz.f6.params[j]? = some t → args[j]? = some v → Value.okWide Tryz.prog W .any base t v := hval0
  have hW' := hW
  obtain ⟨p, q, hA0, hV, rfl, hfz, hnd⟩ := hW
  have hA : DataW.TrodAll enc Tryz.prog W 0 (fun _ => true) true Tryz.f6.params.toList args.toList ds p := hA0
  rw [Tryz.params6] at hA hval
  obtain ⟨v0, vs0, d0, ds0, p0, q0, hargs, rfl, rfl, h0, r0⟩ := trodAll_cons hA
  obtain ⟨v1, vs1, d1, ds1, p1, q1, rfl, rfl, rfl, h1, r1⟩ := trodAll_cons r0
  obtain ⟨v2, vs2, d2, ds2, p2, q2, rfl, rfl, rfl, h2, r2⟩ := trodAll_cons r1
  obtain ⟨v3, vs3, d3, ds3, p3, q3, rfl, rfl, rfl, h3, r3⟩ := trodAll_cons r2
  obtain ⟨v4, vs4, d4, ds4, p4, q4, rfl, rfl, rfl, h4, r4⟩ := trodAll_cons r3
  obtain ⟨rfl, rfl, rfl⟩ := trodAll_nil r4
  obtain rfl : args = #[v0, v1, v2, v3, v4] := by cases args; simp_all
  obtain ⟨rfl, rfl⟩ := trodVars_none hV
  obtain ⟨a0, rfl⟩ := open_i11 Tryz.underlying23 (by kernel_rfl) (by kernel_rfl) (by kernel_rfl) (hval 0 23 v0 rfl rfl) h0
  have k0 := h0
  have lt0 : ∀ x ∈ p0, x.block < W.heap.size := by obtain ⟨m, hm⟩ := k0; exact DataW.trod_lt m _ _ _ hm
  obtain ⟨a1, len1, cap1, rfl⟩ := okWide_slice Tryz.underlying44 (hval 1 44 v1 rfl rfl)
  have k1 := h1
  have lt1 : ∀ x ∈ p1, x.block < W.heap.size := by obtain ⟨m, hm⟩ := k1; exact DataW.trod_lt m _ _ _ hm
  have w1 : IsInts W a1 len1 cap1 := by
    obtain ⟨fuel, hf⟩ := h1
    exact open_pairs Tryz.underlying44 Tryz.underlying64 (by kernel_rfl) rfl rfl (by kernel_rfl) (by kernel_rfl) Tryz.underlying31 Tryz.underlying90 (by kernel_rfl) Tryz.underlying4 (by simpa [Value.cells] using hf)
  obtain ⟨a2, len2, cap2, rfl⟩ := okWide_slice Tryz.underlying44 (hval 2 44 v2 rfl rfl)
  have k2 := h2
  have lt2 : ∀ x ∈ p2, x.block < W.heap.size := by obtain ⟨m, hm⟩ := k2; exact DataW.trod_lt m _ _ _ hm
  have w2 : IsInts W a2 len2 cap2 := by
    obtain ⟨fuel, hf⟩ := h2
    exact open_pairs Tryz.underlying44 Tryz.underlying64 (by kernel_rfl) rfl rfl (by kernel_rfl) (by kernel_rfl) Tryz.underlying31 Tryz.underlying90 (by kernel_rfl) Tryz.underlying4 (by simpa [Value.cells] using hf)
  obtain ⟨a3, len3, cap3, rfl⟩ := okWide_slice Tryz.underlying44 (hval 3 44 v3 rfl rfl)
  have k3 := h3
  have lt3 : ∀ x ∈ p3, x.block < W.heap.size := by obtain ⟨m, hm⟩ := k3; exact DataW.trod_lt m _ _ _ hm
  have w3 : IsInts W a3 len3 cap3 := by
    obtain ⟨fuel, hf⟩ := h3
    exact open_pairs Tryz.underlying44 Tryz.underlying64 (by kernel_rfl) rfl rfl (by kernel_rfl) (by kernel_rfl) Tryz.underlying31 Tryz.underlying90 (by kernel_rfl) Tryz.underlying4 (by simpa [Value.cells] using hf)
  obtain ⟨a4, rfl, rfl, rfl, w4⟩ := open_int Tryz.underlying3 (hval 4 3 v4 rfl rfl) h4
  clear hA0 hval0
  refine (walk a0 a1 len1 cap1 a2 len2 cap2 a3 len3 cap3 a4 W hG w1 w2 w3 w4).mono fun e W' ⟨he, bel⟩ => ?_
  subst he
  exact ⟨_, rfl, _, _, _, [], _, [], hW', trodAll_mk1 (shut_bool Tryz.underlying4 _), (trodAll_cons_mk (Below.trod laidOut (by kernel_rfl) (of_decide_eq_true (by kernel_rfl)) k0 bel lt0) (trodAll_cons_mk (Below.trod laidOut (by kernel_rfl) (of_decide_eq_true (by kernel_rfl)) k1 bel lt1) (trodAll_cons_mk (Below.trod laidOut (by kernel_rfl) (of_decide_eq_true (by kernel_rfl)) k2 bel lt2) (trodAll_cons_mk (Below.trod laidOut (by kernel_rfl) (of_decide_eq_true (by kernel_rfl)) k3 bel lt3) (trodAll_cons_mk (shut_int Tryz.underlying3 w4) trodAll_mk0))))), rfl, bel.frame _, fun h => by cases h⟩

theorem fIn : (Rows.zmulAllsRow.inPlace == Tryz.prog.inPlace 6) = true := by kernel_rfl
theorem fUn : (Rows.zmulAllsRow.unfollowed == Tryz.prog.unfollowed 6) = true := by kernel_rfl
theorem fRe : (Rows.zmulAllsRow.recurses == Tryz.prog.recurses 6) = true := by kernel_rfl
theorem fNa : (Rows.zmulAllsRow.named == Tryz.prog.varsNamed 6) = true := by kernel_rfl
theorem closed : joinedFacts Tryz.prog 6 Tryz.f6 Rows.zmulAllsSpec Rows.zmulAllsRow = true :=
  joined_of (by kernel_rfl) rf_laid rf_rowed (by kernel_rfl) (by kernel_rfl) (by kernel_rfl) (by kernel_rfl) (by kernel_rfl) (by kernel_rfl) fIn fUn fRe fNa (by kernel_rfl) (by kernel_rfl) (by kernel_rfl) (by kernel_rfl) (by kernel_rfl) (by kernel_rfl) (by kernel_rfl) (by kernel_rfl) (by kernel_rfl) (by kernel_rfl) (by kernel_rfl) rf_heard rf_mayEnter (by rw [rf_lifts]; rfl) (by rw [rf_make]; rfl) (by kernel_rfl) (by kernel_rfl) (by kernel_rfl) (by kernel_rfl)
theorem goes : false = Rows.zmulAllsRow.goesBy Tryz.prog := by kernel_rfl

theorem over : Rows.zmulAllsRow.holds Tryz.pinned (OpenSpec.ofChange Rows.zmulAllsSpec) :=
  OpenClaim.holds_of_wide 6 Tryz.f6 rfl rfl rfl rfl rfl rfl rfl ⟨rfl, rfl, rfl, rfl, rfl⟩ rfl rfl rfl rfl rfl (by kernel_rfl) Tryz.func6 closed
    (of_decide_eq_true (by kernel_rfl)) (by unfold Func.isWrapper; first | (rw [if_pos (by decide +kernel)]; kernel_rfl) | (rw [if_neg (by decide +kernel)]; exact ⟨rfl, rfl⟩))
    (fun os started H enc _ => lifted os started H enc)

/-- THE STATEMENT -/
theorem proved : Rows.ZmulAllsSaid := over
/-- THE CARD: the row, its one listed variable tied to the program's text. -/
theorem card_holds : Rows.ZmulAllsCardSaid :=
  Claim7.holds_tied_plain_at .later [] [.data] true (true, "997b199495ee6286ea14894fb7b7250d4af9324cd4001ae85384c115e0d0290e") false
    proved (fun _ h => by cases h) (by kernel_rfl) (fun _ h => by cases h) zmulAlls_row_tie rfl ⟨rfl, rfl⟩ rf_main rfl
    (fun f fn hf hfn => by
      obtain rfl : f = 6 := Option.some.inj ((show Tryz.prog.funcNamed "ziggurat/zigguratlaw29.ZmulAlls" = some 6 by kernel_rfl).symm.trans hf) |>.symm
      obtain rfl : fn = Tryz.f6 := (Option.some.inj (Tryz.func6.symm.trans hfn)).symm
      exact ⟨rf_looks.symm, fun j t ht => by
        rw [Tryz.params6] at ht
        have hm := List.mem_of_getElem? ((Array.getElem?_toList ..).trans ht)
        simp only [List.mem_cons, List.not_mem_nil, or_false] at hm
        rcases hm with rfl | rfl | rfl | rfl | rfl
        · exact (show Tryz.prog.wantsStandIn 23 = false by kernel_rfl)
        · exact (show Tryz.prog.wantsStandIn 44 = false by kernel_rfl)
        · exact (show Tryz.prog.wantsStandIn 44 = false by kernel_rfl)
        · exact (show Tryz.prog.wantsStandIn 44 = false by kernel_rfl)
        · exact (show Tryz.prog.wantsStandIn 3 = false by kernel_rfl)⟩)
    goes
end Go.Proofs.YtjhfalgmgagdhaaGreatDoor.zmulAlls
