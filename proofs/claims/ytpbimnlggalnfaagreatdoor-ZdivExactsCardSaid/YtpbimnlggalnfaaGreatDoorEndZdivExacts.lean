/- The law 'ZdivExacts' returns true for every input, and changes none of its arguments (statement Rows.ZdivExactsSaid). Condition: none. -/
import Derived.Test.YtpbimnlggalnfaaGreatDoorRows
import Derived.Test.YtpbimnlggalnfaaGreatDoorCards
import Derived.Test.YtpbimnlggalnfaaGreatDoorTie
import Derived.Test.YtpbimnlggalnfaaGreatDoorGA
import Derived.Test.YtpbimnlggalnfaaGreatDoorGB
import Derived.Test.YtpbimnlggalnfaaGreatDoorGC
import Derived.Test.YtpbimnlggalnfaaGreatDoorGP
import Derived.Test.YtpbimnlggalnfaaGreatDoorGP1
import Derived.Test.YtpbimnlggalnfaaGreatDoorGP2
import Derived.Test.YtpbimnlggalnfaaGreatDoorGP3
import Derived.Test.YtpbimnlggalnfaaGreatDoorGP4
import Derived.Test.YtpbimnlggalnfaaGreatDoorGP5
import Derived.Test.YtpbimnlggalnfaaGreatDoorGP6
import Derived.Test.YtpbimnlggalnfaaGreatDoorGK
import Derived.Test.YtpbimnlggalnfaaGreatDoorGQ
import Derived.Test.YtpbimnlggalnfaaGreatDoorGS
import Derived.Test.YtpbimnlggalnfaaGreatDoorGKA
import Derived.Test.YtpbimnlggalnfaaGreatDoorGKC
import Derived.Test.YtpbimnlggalnfaaGreatDoorGKE
import Derived.Test.YtpbimnlggalnfaaGreatDoorGIA
import Derived.Test.YtpbimnlggalnfaaGreatDoorGIB
import Derived.Test.YtpbimnlggalnfaaGreatDoorGMA
import Derived.Test.YtpbimnlggalnfaaGreatDoorGMB
import Derived.Test.YtpbimnlggalnfaaGreatDoorGMC
import Derived.Test.YtpbimnlggalnfaaGreatDoorGMD
import Derived.Test.YtpbimnlggalnfaaGreatDoorGME
import Derived.Test.YtpbimnlggalnfaaGreatDoorGJA
import Derived.Test.YtpbimnlggalnfaaGreatDoorGJB
import Derived.Test.YtpbimnlggalnfaaGreatDoorGHA
import Derived.Test.YtpbimnlggalnfaaGreatDoorGHD
import Derived.Test.YtpbimnlggalnfaaGreatDoorGHE
import Derived.Test.YtpbimnlggalnfaaGreatDoorGR5
import Derived.Test.YtpbimnlggalnfaaGreatDoorGNA
import Derived.Test.YtpbimnlggalnfaaGreatDoorGNB
import Derived.Test.YtpbimnlggalnfaaGreatDoorGNC
import Derived.Test.YtpbimnlggalnfaaGreatDoorGND
import Derived.Test.YtpbimnlggalnfaaGreatDoorGNE
import Derived.Test.YtpbimnlggalnfaaGreatDoorGZA
import Derived.Test.YtpbimnlggalnfaaGreatDoorGZB
import Derived.Test.YtpbimnlggalnfaaGreatDoorGZC
import Derived.Test.YtpbimnlggalnfaaGreatDoorGZD
import Derived.Test.YtpbimnlggalnfaaGreatDoorGZE
import Derived.Test.YtpbimnlggalnfaaGreatDoorGZG
import Derived.Test.YtpbimnlggalnfaaGreatDoorGZJ
import Derived.Test.YtpbimnlggalnfaaGreatDoorGZL
import Derived.Test.YtpbimnlggalnfaaGreatDoorGZK
import Derived.Test.YtpbimnlggalnfaaGreatDoorGZM
import Derived.WalkKit
import Derived.ProofKit
import Derived.OpenShut
import Derived.ShutString
import Derived.ChangeOld
import Derived.Below
namespace Go.Proofs.YtpbimnlggalnfaaGreatDoor.zdivExacts
open Go.ChangeShapes Go.WideShapes Go.ChangeAt Go.RowKit
open Go.ChangeMaps (open_string shut_string)
open Go.Proofs.YtpbimnlggalnfaaGreatDoor.Zg
set_option linter.unusedVariables false

theorem own : ownKnob Tryz.prog.godebug = none := by kernel_rfl
theorem laidOut : laidOutB Tryz.prog = true := by kernel_rfl

/-! ### STEP 1: THE WALK: the Go text returns true, AND WRITES NOTHING THAT WAS THERE: 'Below w.heap.size w w'' (Derived/Below.lean: '.refl', '.alloc', '.drew', '.setCell' at a new block, '.trans'). Open each 'IsRow' by 'rcases' AHEAD of 'go_enter'; part every test ahead of the walk. -/
theorem walk (a0 : HL I11) (a1 : Option Addr) (len1 cap1 : Nat) (a2 : Option Addr) (len2 cap2 : Nat) (a3 : Bool) (w : World) (hG : Gl (TW.of w)) (w1 : yr w a1 len1 cap1) (w2 : yr w a2 len2 cap2) :
    Calls Tryz.prog 7 #[.agg (aT I11 a0).toArray, .slice a1 len1 cap1, .slice a2 len2 cap2, .bool a3] w λe w' => e = .returned (.bool true) ∧ Below w.heap.size w w' := by
  obtain⟨zz1, hz1⟩ := ac5 w1
  obtain⟨zz2, hz2⟩ := ac5 w2
  have h := zj (w := TW.of w) (t := a0) hG hz1 hz2 a3
  exact ac6 h

/-! ### THE ROW's STEP: WRITTEN OUT: LEAVE IT -/
set_option maxRecDepth 100000 in
theorem lifted (os : Os) (started : os.Started) (H : Type) (enc : TypeId × Value → H) :
    ReturnsInHanded {} Tryz.checked os 7 .any (λw args => (Rows.zdivExactsSpec.pre enc Tryz.prog Tryz.f7 Rows.zdivExactsRow.domain false w args ∧ laidMetH Tryz.prog Rows.zdivExactsRow.laid w) ∧ sizedMet enc Tryz.prog Tryz.f7 (OpenSpec.ofChange Rows.zdivExactsSpec) false w args) (Rows.zdivExactsSpec.post enc Tryz.prog Tryz.f7 false true false false) := by
  refine returnsInHanded_of_change_and (C := Tryz.checked) (X := λw _ => laidMetH Tryz.prog Rows.zdivExactsRow.laid w) (λ_ _ _ hh h => h.of_heap hh) own started (by kernel_rfl) Tryz.func7
    (ChangeSpec.witness_at (enc := enc) (C := Tryz.checked) (os := os) (X := λw _ => laidMetH Tryz.prog Rows.zdivExactsRow.laid w) false (th os) #[.agg #[.int .i64 0, .int .i64 0, .int .i64 0, .int .i64 0, .int .i64 0, .int .i64 0, .int .i64 0, .int .i64 0, .int .i64 0, .int .i64 0, .int .i64 0], .slice none 0 0, .slice none 0 0, .bool false] 8 rfl (by kernel_rfl) (by kernel_rfl) (by kernel_rfl) (by kernel_rfl) (by kernel_rfl) (abk os _)) ?_
  intro W base args ds gs before hval0 hW hcnd _ hL _
  have hG : Gl (TW.of W) := ac8 hL
  have hval : ∀ (j : Nat) t v, Tryz.f7.params[j]? = some t → args[j]? = some v → Value.okWide Tryz.prog W .any base t v := hval0
  have hW' := hW
  obtain⟨p, q, hA0, hV, rfl, hfz, hnd⟩ := hW
  have hA : DataW.TrodAll enc Tryz.prog W 0 (λ_ => true) true Tryz.f7.params.toList args.toList ds p := hA0
  rw [Tryz.params7] at hA hval
  obtain⟨v0, vs0, d0, ds0, p0, q0, hargs, rfl, rfl, h0, r0⟩ := trodAll_cons hA
  obtain⟨v1, vs1, d1, ds1, p1, q1, rfl, rfl, rfl, h1, r1⟩ := trodAll_cons r0
  obtain⟨v2, vs2, d2, ds2, p2, q2, rfl, rfl, rfl, h2, r2⟩ := trodAll_cons r1
  obtain⟨v3, vs3, d3, ds3, p3, q3, rfl, rfl, rfl, h3, r3⟩ := trodAll_cons r2
  obtain⟨rfl, rfl, rfl⟩ := trodAll_nil r3
  obtain rfl : args = #[v0, v1, v2, v3] := by cases args; simp_all
  obtain⟨rfl, rfl⟩ := trodVars_none hV
  obtain⟨a0, rfl⟩ := acT Tryz.underlying23 (by kernel_rfl) (by kernel_rfl) (by kernel_rfl) (hval 0 23 v0 rfl rfl) h0
  have k0 := h0
  have lt0 : ∀ x ∈ p0, x.block < W.heap.size := by obtain⟨m, hm⟩ := k0; exact DataW.trod_lt m _ _ _ hm
  obtain⟨a1, len1, cap1, rfl⟩ := okWide_slice Tryz.underlying24 (hval 1 24 v1 rfl rfl)
  have k1 := h1
  have lt1 : ∀ x ∈ p1, x.block < W.heap.size := by obtain⟨m, hm⟩ := k1; exact DataW.trod_lt m _ _ _ hm
  have w1 : yr W a1 len1 cap1 := by
    obtain⟨fuel, hf⟩ := h1
    exact acr Tryz.underlying24 Tryz.underlying28 (by kernel_rfl) rfl rfl (by kernel_rfl) (by kernel_rfl) Tryz.underlying26 Tryz.underlying100 (by kernel_rfl) Tryz.underlying4 (by simpa [Value.cells] using hf)
  obtain⟨a2, len2, cap2, rfl⟩ := okWide_slice Tryz.underlying24 (hval 2 24 v2 rfl rfl)
  have k2 := h2
  have lt2 : ∀ x ∈ p2, x.block < W.heap.size := by obtain⟨m, hm⟩ := k2; exact DataW.trod_lt m _ _ _ hm
  have w2 : yr W a2 len2 cap2 := by
    obtain⟨fuel, hf⟩ := h2
    exact acr Tryz.underlying24 Tryz.underlying28 (by kernel_rfl) rfl rfl (by kernel_rfl) (by kernel_rfl) Tryz.underlying26 Tryz.underlying100 (by kernel_rfl) Tryz.underlying4 (by simpa [Value.cells] using hf)
  obtain⟨a3, rfl, rfl, rfl⟩ := open_bool Tryz.underlying4 (hval 3 4 v3 rfl rfl) h3
  clear hA0 hval0
  refine (walk a0 a1 len1 cap1 a2 len2 cap2 a3 W hG w1 w2).mono λe W' ⟨he, bel⟩ => ?_
  subst he
  exact⟨_, rfl, _, _, _, [], _, [], hW', trodAll_mk1 (shut_bool Tryz.underlying4 _), (trodAll_cons_mk (Below.trod laidOut (by kernel_rfl) (of_decide_eq_true (by kernel_rfl)) k0 bel lt0) (trodAll_cons_mk (Below.trod laidOut (by kernel_rfl) (of_decide_eq_true (by kernel_rfl)) k1 bel lt1) (trodAll_cons_mk (Below.trod laidOut (by kernel_rfl) (of_decide_eq_true (by kernel_rfl)) k2 bel lt2) (trodAll_cons_mk (shut_bool Tryz.underlying4 _) trodAll_mk0)))), rfl, bel.frame _, λh => by cases h⟩

theorem fIn : (Rows.zdivExactsRow.inPlace == Tryz.prog.inPlace 7) = true := by kernel_rfl
theorem fUn : (Rows.zdivExactsRow.unfollowed == Tryz.prog.unfollowed 7) = true := by kernel_rfl
theorem fRe : (Rows.zdivExactsRow.recurses == Tryz.prog.recurses 7) = true := by kernel_rfl
theorem fNa : (Rows.zdivExactsRow.named == Tryz.prog.varsNamed 7) = true := by kernel_rfl
theorem closed : joinedFacts Tryz.prog 7 Tryz.f7 Rows.zdivExactsSpec Rows.zdivExactsRow = true :=
  acJ (by kernel_rfl) ac3 acL (by kernel_rfl) (by kernel_rfl) (by kernel_rfl) (by kernel_rfl) (by kernel_rfl) (by kernel_rfl) fIn fUn fRe fNa (by kernel_rfl) (by kernel_rfl) (by kernel_rfl) (by kernel_rfl) (by kernel_rfl) (by kernel_rfl) (by kernel_rfl) (by kernel_rfl) (by kernel_rfl) (by kernel_rfl) (by kernel_rfl) acO aci (by rw [acN]; rfl) (by rw [ac1]; rfl) (by kernel_rfl) (by kernel_rfl) (by kernel_rfl) (by kernel_rfl)
theorem goes : false = Rows.zdivExactsRow.goesBy Tryz.prog := by kernel_rfl

theorem over : Rows.zdivExactsRow.holds Tryz.pinned (OpenSpec.ofChange Rows.zdivExactsSpec) :=
  OpenClaim.holds_of_wide 7 Tryz.f7 rfl rfl rfl rfl rfl rfl rfl ⟨rfl, rfl, rfl, rfl, rfl⟩ rfl rfl rfl rfl rfl (by kernel_rfl) Tryz.func7 closed
    (of_decide_eq_true (by kernel_rfl)) (by unfold Func.isWrapper; first | (rw [if_pos (by decide +kernel)]; kernel_rfl) | (rw [if_neg (by decide +kernel)]; exact⟨rfl, rfl⟩))
    (λos started H enc _ => lifted os started H enc)

/-- THE STATEMENT -/
theorem proved : Rows.ZdivExactsSaid := over
/-- THE CARD: the row, its one listed variable tied to the program's text. -/
theorem card_holds : Rows.ZdivExactsCardSaid :=
  Claim7.holds_tied_plain_at .later [] [.data] true (true, "a76e77b7cd8bfd81a095ef52eca1489b90bbf904bfc050450dee3c4e11bebffd") false
    proved (λ_ h => by cases h) (by kernel_rfl) (λ_ h => by cases h) zdivExacts_row_tie rfl ⟨rfl, rfl⟩ ac2 rfl
    (λf fn hf hfn => by
      obtain rfl : f = 7 := Option.some.inj ((show Tryz.prog.funcNamed "ziggurat/zigguratlaw30.ZdivExacts" = some 7 by kernel_rfl).symm.trans hf) |>.symm
      obtain rfl : fn = Tryz.f7 := (Option.some.inj (Tryz.func7.symm.trans hfn)).symm
      exact⟨acM.symm, λj t ht => by
        rw [Tryz.params7] at ht
        have hm := List.mem_of_getElem? ((Array.getElem?_toList ..).trans ht)
        simp only [List.mem_cons, List.not_mem_nil, or_false] at hm
        rcases hm with rfl | rfl | rfl | rfl
        · exact (show Tryz.prog.wantsStandIn 23 = false by kernel_rfl)
        · exact (show Tryz.prog.wantsStandIn 24 = false by kernel_rfl)
        · exact (show Tryz.prog.wantsStandIn 24 = false by kernel_rfl)
        · exact (show Tryz.prog.wantsStandIn 4 = false by kernel_rfl)⟩)
    goes
end Go.Proofs.YtpbimnlggalnfaaGreatDoor.zdivExacts
