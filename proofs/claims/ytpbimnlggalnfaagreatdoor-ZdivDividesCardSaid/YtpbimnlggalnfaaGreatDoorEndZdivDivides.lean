/- The law 'ZdivDivides' returns true for every input, and changes none of its arguments (statement Rows.ZdivDividesSaid). Condition: none. -/
import Derived.Test.YtpbimnlggalnfaaGreatDoorRows
import Derived.Test.YtpbimnlggalnfaaGreatDoorCards
import Derived.Test.YtpbimnlggalnfaaGreatDoorTie
import Derived.Test.YtpbimnlggalnfaaGreatDoorGA
import Derived.Test.YtpbimnlggalnfaaGreatDoorGB
import Derived.Test.YtpbimnlggalnfaaGreatDoorGC
import Derived.Test.YtpbimnlggalnfaaGreatDoorGP
import Derived.Test.YtpbimnlggalnfaaGreatDoorGP1
import Derived.Test.YtpbimnlggalnfaaGreatDoorGP2
import Derived.Test.YtpbimnlggalnfaaGreatDoorGP3
import Derived.Test.YtpbimnlggalnfaaGreatDoorGP4
import Derived.Test.YtpbimnlggalnfaaGreatDoorGP5
import Derived.Test.YtpbimnlggalnfaaGreatDoorGK
import Derived.Test.YtpbimnlggalnfaaGreatDoorGQ
import Derived.Test.YtpbimnlggalnfaaGreatDoorGS
import Derived.Test.YtpbimnlggalnfaaGreatDoorGKA
import Derived.Test.YtpbimnlggalnfaaGreatDoorGKC
import Derived.Test.YtpbimnlggalnfaaGreatDoorGKE
import Derived.Test.YtpbimnlggalnfaaGreatDoorGIA
import Derived.Test.YtpbimnlggalnfaaGreatDoorGIB
import Derived.Test.YtpbimnlggalnfaaGreatDoorGMA
import Derived.Test.YtpbimnlggalnfaaGreatDoorGMB
import Derived.Test.YtpbimnlggalnfaaGreatDoorGMC
import Derived.Test.YtpbimnlggalnfaaGreatDoorGMD
import Derived.Test.YtpbimnlggalnfaaGreatDoorGME
import Derived.Test.YtpbimnlggalnfaaGreatDoorGJA
import Derived.Test.YtpbimnlggalnfaaGreatDoorGJB
import Derived.Test.YtpbimnlggalnfaaGreatDoorGJC
import Derived.Test.YtpbimnlggalnfaaGreatDoorGHA
import Derived.Test.YtpbimnlggalnfaaGreatDoorGHD
import Derived.Test.YtpbimnlggalnfaaGreatDoorGHE
import Derived.Test.YtpbimnlggalnfaaGreatDoorGR5
import Derived.Test.YtpbimnlggalnfaaGreatDoorGNA
import Derived.Test.YtpbimnlggalnfaaGreatDoorGNB
import Derived.Test.YtpbimnlggalnfaaGreatDoorGNC
import Derived.Test.YtpbimnlggalnfaaGreatDoorGND
import Derived.Test.YtpbimnlggalnfaaGreatDoorGNE
import Derived.Test.YtpbimnlggalnfaaGreatDoorGNF
import Derived.Test.YtpbimnlggalnfaaGreatDoorGZA
import Derived.Test.YtpbimnlggalnfaaGreatDoorGZB
import Derived.Test.YtpbimnlggalnfaaGreatDoorGZC
import Derived.Test.YtpbimnlggalnfaaGreatDoorGZD
import Derived.Test.YtpbimnlggalnfaaGreatDoorGZE
import Derived.Test.YtpbimnlggalnfaaGreatDoorGZG
import Derived.Test.YtpbimnlggalnfaaGreatDoorGZL
import Derived.Test.YtpbimnlggalnfaaGreatDoorGZK
import Derived.Test.YtpbimnlggalnfaaGreatDoorGZM
import Derived.Test.YtpbimnlggalnfaaGreatDoorGZN
import Derived.WalkKit
import Derived.ProofKit
import Derived.OpenShut
import Derived.ShutString
import Derived.ChangeOld
import Derived.Below
namespace Go.Proofs.YtpbimnlggalnfaaGreatDoor.zdivDivides
open Go.ChangeShapes Go.WideShapes Go.ChangeAt Go.RowKit
open Go.ChangeMaps (open_string shut_string)
open Go.Proofs.YtpbimnlggalnfaaGreatDoor.Zg
set_option linter.unusedVariables false

theorem own : ownKnob Tryz.prog.godebug = none := by kernel_rfl
theorem laidOut : laidOutB Tryz.prog = true := by kernel_rfl

/-! ### STEP 1: THE WALK: the Go text returns true, AND WRITES NOTHING THAT WAS THERE: 'Below w.heap.size w w'' (Derived/Below.lean: '.refl', '.alloc', '.drew', '.setCell' at a new block, '.trans'). Open each 'IsRow' by 'rcases' AHEAD of 'go_enter'; part every test ahead of the walk. -/
theorem walk (a0 : HL I11) (a1 : HL I11) (a2 : Option Addr) (len2 cap2 : Nat) (a3 : Option Addr) (len3 cap3 : Nat) (a4 : Option Addr) (len4 cap4 : Nat) (w : World) (hG : Gl (TW.of w)) (w2 : aay w a2 len2 cap2) (w3 : aay w a3 len3 cap3) (w4 : aay w a4 len4 cap4) :
    Calls Tryz.prog 9 #[.agg (aM I11 a0).toArray, .agg (aM I11 a1).toArray, .slice a2 len2 cap2, .slice a3 len3 cap3, .slice a4 len4 cap4] w λe w' => e = .returned (.bool true) ∧ Below w.heap.size w w' := by
  obtain⟨zz2, hz2⟩ := aeL w2
  obtain⟨zz3, hz3⟩ := aeL w3
  obtain⟨zz4, hz4⟩ := aeL w4
  have h := aaz (w := TW.of w) (t := a0) (u := a1) hG hz2 hz3 hz4
  exact aeM h

/-! ### THE ROW's STEP: WRITTEN OUT: LEAVE IT -/
set_option maxRecDepth 100000 in
theorem lifted (os : Os) (started : os.Started) (H : Type) (enc : TypeId × Value → H) :
    ReturnsInHanded {} Tryz.checked os 9 .any (λw args => (Rows.zdivDividesSpec.pre enc Tryz.prog Tryz.f9 Rows.zdivDividesRow.domain false w args ∧ laidMetH Tryz.prog Rows.zdivDividesRow.laid w) ∧ sizedMet enc Tryz.prog Tryz.f9 (OpenSpec.ofChange Rows.zdivDividesSpec) false w args) (Rows.zdivDividesSpec.post enc Tryz.prog Tryz.f9 false true false false) := by
  refine returnsInHanded_of_change_and (C := Tryz.checked) (X := λw _ => laidMetH Tryz.prog Rows.zdivDividesRow.laid w) (λ_ _ _ hh h => h.of_heap hh) own started (by kernel_rfl) Tryz.func9
    (ChangeSpec.witness_at (enc := enc) (C := Tryz.checked) (os := os) (X := λw _ => laidMetH Tryz.prog Rows.zdivDividesRow.laid w) false (uQ os) #[.agg #[.int .i64 0, .int .i64 0, .int .i64 0, .int .i64 0, .int .i64 0, .int .i64 0, .int .i64 0, .int .i64 0, .int .i64 0, .int .i64 0, .int .i64 0], .agg #[.int .i64 0, .int .i64 0, .int .i64 0, .int .i64 0, .int .i64 0, .int .i64 0, .int .i64 0, .int .i64 0, .int .i64 0, .int .i64 0, .int .i64 0], .slice none 0 0, .slice none 0 0, .slice none 0 0] 8 rfl (by kernel_rfl) (by kernel_rfl) (by kernel_rfl) (by kernel_rfl) (by kernel_rfl) (acV os _)) ?_
  intro W base args ds gs before hval0 hW hcnd _ hL _
  have hG : Gl (TW.of W) := aeO hL
  have hval : ∀ (j : Nat) t v, Tryz.f9.params[j]? = some t → args[j]? = some v → Value.okWide Tryz.prog W .any base t v := hval0
  have hW' := hW
  obtain⟨p, q, hA0, hV, rfl, hfz, hnd⟩ := hW
  have hA : DataW.TrodAll enc Tryz.prog W 0 (λ_ => true) true Tryz.f9.params.toList args.toList ds p := hA0
  rw [Tryz.params9] at hA hval
  obtain⟨v0, vs0, d0, ds0, p0, q0, hargs, rfl, rfl, h0, r0⟩ := trodAll_cons hA
  obtain⟨v1, vs1, d1, ds1, p1, q1, rfl, rfl, rfl, h1, r1⟩ := trodAll_cons r0
  obtain⟨v2, vs2, d2, ds2, p2, q2, rfl, rfl, rfl, h2, r2⟩ := trodAll_cons r1
  obtain⟨v3, vs3, d3, ds3, p3, q3, rfl, rfl, rfl, h3, r3⟩ := trodAll_cons r2
  obtain⟨v4, vs4, d4, ds4, p4, q4, rfl, rfl, rfl, h4, r4⟩ := trodAll_cons r3
  obtain⟨rfl, rfl, rfl⟩ := trodAll_nil r4
  obtain rfl : args = #[v0, v1, v2, v3, v4] := by cases args; simp_all
  obtain⟨rfl, rfl⟩ := trodVars_none hV
  obtain⟨a0, rfl⟩ := aex Tryz.underlying23 (by kernel_rfl) (by kernel_rfl) (by kernel_rfl) (hval 0 23 v0 rfl rfl) h0
  have k0 := h0
  have lt0 : ∀ x ∈ p0, x.block < W.heap.size := by obtain⟨m, hm⟩ := k0; exact DataW.trod_lt m _ _ _ hm
  obtain⟨a1, rfl⟩ := aex Tryz.underlying23 (by kernel_rfl) (by kernel_rfl) (by kernel_rfl) (hval 1 23 v1 rfl rfl) h1
  have k1 := h1
  have lt1 : ∀ x ∈ p1, x.block < W.heap.size := by obtain⟨m, hm⟩ := k1; exact DataW.trod_lt m _ _ _ hm
  obtain⟨a2, len2, cap2, rfl⟩ := okWide_slice Tryz.underlying24 (hval 2 24 v2 rfl rfl)
  have k2 := h2
  have lt2 : ∀ x ∈ p2, x.block < W.heap.size := by obtain⟨m, hm⟩ := k2; exact DataW.trod_lt m _ _ _ hm
  have w2 : aay W a2 len2 cap2 := by
    obtain⟨fuel, hf⟩ := h2
    exact ad3 Tryz.underlying24 Tryz.underlying28 (by kernel_rfl) rfl rfl (by kernel_rfl) (by kernel_rfl) Tryz.underlying26 Tryz.underlying100 (by kernel_rfl) Tryz.underlying4 (by simpa [Value.cells] using hf)
  obtain⟨a3, len3, cap3, rfl⟩ := okWide_slice Tryz.underlying24 (hval 3 24 v3 rfl rfl)
  have k3 := h3
  have lt3 : ∀ x ∈ p3, x.block < W.heap.size := by obtain⟨m, hm⟩ := k3; exact DataW.trod_lt m _ _ _ hm
  have w3 : aay W a3 len3 cap3 := by
    obtain⟨fuel, hf⟩ := h3
    exact ad3 Tryz.underlying24 Tryz.underlying28 (by kernel_rfl) rfl rfl (by kernel_rfl) (by kernel_rfl) Tryz.underlying26 Tryz.underlying100 (by kernel_rfl) Tryz.underlying4 (by simpa [Value.cells] using hf)
  obtain⟨a4, len4, cap4, rfl⟩ := okWide_slice Tryz.underlying24 (hval 4 24 v4 rfl rfl)
  have k4 := h4
  have lt4 : ∀ x ∈ p4, x.block < W.heap.size := by obtain⟨m, hm⟩ := k4; exact DataW.trod_lt m _ _ _ hm
  have w4 : aay W a4 len4 cap4 := by
    obtain⟨fuel, hf⟩ := h4
    exact ad3 Tryz.underlying24 Tryz.underlying28 (by kernel_rfl) rfl rfl (by kernel_rfl) (by kernel_rfl) Tryz.underlying26 Tryz.underlying100 (by kernel_rfl) Tryz.underlying4 (by simpa [Value.cells] using hf)
  clear hA0 hval0
  refine (walk a0 a1 a2 len2 cap2 a3 len3 cap3 a4 len4 cap4 W hG w2 w3 w4).mono λe W' ⟨he, bel⟩ => ?_
  subst he
  exact⟨_, rfl, _, _, _, [], _, [], hW', trodAll_mk1 (shut_bool Tryz.underlying4 _), (trodAll_cons_mk (Below.trod laidOut (by kernel_rfl) (of_decide_eq_true (by kernel_rfl)) k0 bel lt0) (trodAll_cons_mk (Below.trod laidOut (by kernel_rfl) (of_decide_eq_true (by kernel_rfl)) k1 bel lt1) (trodAll_cons_mk (Below.trod laidOut (by kernel_rfl) (of_decide_eq_true (by kernel_rfl)) k2 bel lt2) (trodAll_cons_mk (Below.trod laidOut (by kernel_rfl) (of_decide_eq_true (by kernel_rfl)) k3 bel lt3) (trodAll_cons_mk (Below.trod laidOut (by kernel_rfl) (of_decide_eq_true (by kernel_rfl)) k4 bel lt4) trodAll_mk0))))), rfl, bel.frame _, λh => by cases h⟩

theorem fIn : (Rows.zdivDividesRow.inPlace == Tryz.prog.inPlace 9) = true := by kernel_rfl
theorem fUn : (Rows.zdivDividesRow.unfollowed == Tryz.prog.unfollowed 9) = true := by kernel_rfl
theorem fRe : (Rows.zdivDividesRow.recurses == Tryz.prog.recurses 9) = true := by kernel_rfl
theorem fNa : (Rows.zdivDividesRow.named == Tryz.prog.varsNamed 9) = true := by kernel_rfl
theorem closed : joinedFacts Tryz.prog 9 Tryz.f9 Rows.zdivDividesSpec Rows.zdivDividesRow = true :=
  aen (by kernel_rfl) aeJ aep (by kernel_rfl) (by kernel_rfl) (by kernel_rfl) (by kernel_rfl) (by kernel_rfl) (by kernel_rfl) fIn fUn fRe fNa (by kernel_rfl) (by kernel_rfl) (by kernel_rfl) (by kernel_rfl) (by kernel_rfl) (by kernel_rfl) (by kernel_rfl) (by kernel_rfl) (by kernel_rfl) (by kernel_rfl) (by kernel_rfl) aes adS (by rw [aer]; rfl) (by rw [aeH]; rfl) (by kernel_rfl) (by kernel_rfl) (by kernel_rfl) (by kernel_rfl)
theorem goes : false = Rows.zdivDividesRow.goesBy Tryz.prog := by kernel_rfl

theorem over : Rows.zdivDividesRow.holds Tryz.pinned (OpenSpec.ofChange Rows.zdivDividesSpec) :=
  OpenClaim.holds_of_wide 9 Tryz.f9 rfl rfl rfl rfl rfl rfl rfl ⟨rfl, rfl, rfl, rfl, rfl⟩ rfl rfl rfl rfl rfl (by kernel_rfl) Tryz.func9 closed
    (of_decide_eq_true (by kernel_rfl)) (by unfold Func.isWrapper; first | (rw [if_pos (by decide +kernel)]; kernel_rfl) | (rw [if_neg (by decide +kernel)]; exact⟨rfl, rfl⟩))
    (λos started H enc _ => lifted os started H enc)

/-- THE STATEMENT -/
theorem proved : Rows.ZdivDividesSaid := over
/-- THE CARD: the row, its one listed variable tied to the program's text. -/
theorem card_holds : Rows.ZdivDividesCardSaid :=
  Claim7.holds_tied_plain_at .later [] [.data] true (true, "a76e77b7cd8bfd81a095ef52eca1489b90bbf904bfc050450dee3c4e11bebffd") false
    proved (λ_ h => by cases h) (by kernel_rfl) (λ_ h => by cases h) zdivDivides_row_tie rfl ⟨rfl, rfl⟩ aeI rfl
    (λf fn hf hfn => by
      obtain rfl : f = 9 := Option.some.inj ((show Tryz.prog.funcNamed "ziggurat/zigguratlaw30.ZdivDivides" = some 9 by kernel_rfl).symm.trans hf) |>.symm
      obtain rfl : fn = Tryz.f9 := (Option.some.inj (Tryz.func9.symm.trans hfn)).symm
      exact⟨aeq.symm, λj t ht => by
        rw [Tryz.params9] at ht
        have hm := List.mem_of_getElem? ((Array.getElem?_toList ..).trans ht)
        simp only [List.mem_cons, List.not_mem_nil, or_false] at hm
        rcases hm with rfl | rfl | rfl | rfl | rfl
        · exact (show Tryz.prog.wantsStandIn 23 = false by kernel_rfl)
        · exact (show Tryz.prog.wantsStandIn 23 = false by kernel_rfl)
        · exact (show Tryz.prog.wantsStandIn 24 = false by kernel_rfl)
        · exact (show Tryz.prog.wantsStandIn 24 = false by kernel_rfl)
        · exact (show Tryz.prog.wantsStandIn 24 = false by kernel_rfl)⟩)
    goes
end Go.Proofs.YtpbimnlggalnfaaGreatDoor.zdivDivides
