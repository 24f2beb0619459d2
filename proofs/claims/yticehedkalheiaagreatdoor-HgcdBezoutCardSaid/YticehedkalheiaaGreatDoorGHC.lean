/- A part of the proofs of this seat's laws: words, lemmas or contracts of its functions. -/
import Derived.Test.YticehedkalheiaaGreatDoorGA
import Derived.Test.YticehedkalheiaaGreatDoorGMA
import Derived.Test.YticehedkalheiaaGreatDoorGMB
import Derived.Test.YticehedkalheiaaGreatDoorGMD
import Derived.Test.YticehedkalheiaaGreatDoorGME
import Derived.Test.YticehedkalheiaaGreatDoorGKA
import Derived.Test.YticehedkalheiaaGreatDoorGKE
import Derived.Test.YticehedkalheiaaGreatDoorGIA
import Derived.Test.YticehedkalheiaaGreatDoorGKC
import Derived.Test.YticehedkalheiaaGreatDoorGHA
import Derived.Test.YticehedkalheiaaGreatDoorGB
import Derived.Test.YticehedkalheiaaGreatDoorGIB
import Derived.Test.YticehedkalheiaaGreatDoorGJA
import Derived.Test.YticehedkalheiaaGreatDoorGJB
import Derived.Test.YticehedkalheiaaGreatDoorGHB
import Derived.Test.YticehedkalheiaaGreatDoorGK
import Derived.Test.YticehedkalheiaaGreatDoorGQ
import Derived.Test.YticehedkalheiaaGreatDoorGMC
import Derived.Test.YticehedkalheiaaGreatDoorGP
import Derived.Test.YticehedkalheiaaGreatDoorGP1
import Derived.Test.YticehedkalheiaaGreatDoorGP2
import Derived.Test.YticehedkalheiaaGreatDoorGP3
import Derived.Test.YticehedkalheiaaGreatDoorGP4
import Derived.Test.YticehedkalheiaaGreatDoorGP5
import Derived.Test.YticehedkalheiaaGreatDoorGS
import Derived.Test.YticehedkalheiaaGreatDoorGC
set_option linter.unusedVariables false
set_option linter.unusedSimpArgs false
set_option linter.unnecessarySimpa false
section
namespace Go.Proofs.YticehedkalheiaaGreatDoor.Zg
open Go.RowKit
/-- A call that answers true. -/
theorem c1_ {P : Program} {f : FuncId} {args : List Value} {w : TW} {K : Bool → TW → Prop} (h : Ct P f args w none_ [.one .bool] fun (r : Bool) _ => r = true) (hK : ∀ w', Ext none_ w w' → K true w') : cl P f args w [.one .bool] K := c1 h (by rintro r w' e rfl; exact hK w' e)
end Go.Proofs.YticehedkalheiaaGreatDoor.Zg
end

section
namespace Go.Proofs.YticehedkalheiaaGreatDoor.Zg
open Go.RowKit
set_option maxHeartbeats 800000 in
theorem law21_HgcdBezout {w : TW} {t : HL I11} {a b c : Sl} (hG : Gl w) (ha : Arg w a) (hb : Arg w b) (hc : Arg w c) : Ct Pg F.zigguratlaw21_HgcdBezout [.agg (encs I11 t).toArray, a.v, b.v, c.v] w none_ [.one .bool] fun (r : Bool) _ => r = true := by
  obtain ⟨la, ha⟩ := ha
  obtain ⟨lb, hb⟩ := hb
  obtain ⟨lc, hc⟩ := hc
  refine Ct.zigguratlaw21_HgcdBezout ?_
  unfold Sh.zigguratlaw21_HgcdBezout
  intro w1 e1
  refine cutc (n := 24) (ha.here.ext e1) rfl fun s w2 e2 hs _ => cutc (n := 24) ((hb.here.ext e1).ext e2) rfl fun s1 w3 e3 ht _ => cutc (n := 8) (((hc.here.ext e1).ext e2).ext e3) rfl fun s2 w4 e4 hu _ => ?_
  have hs := (hs.ext e3).ext e4
  have ht := ht.ext e4
  have kx := sz_vl hs.sm
  have ky := sz_vl ht.sm
  have kz := sz_vl hu.sm
  have nla : (la.take 24).length ≤ 24 := by simp; omega
  have nlb : (lb.take 24).length ≤ 24 := by simp; omega
  have nlc : (lc.take 8).length ≤ 8 := by simp; omega
  generalize la.take 24 = l1 at *
  generalize lb.take 24 = l2 at *
  generalize lc.take 8 = l3 at *
  have ka := dz_of_sz kx
  have kb := dz_of_sz ky
  have kc := dz_of_sz kz
  refine c1 (law21_from hs (by omega)) fun s3 w5 e5 h5 => ?_
  refine c1 (law21_from (hu.ext e5) (by omega)) fun s4 w6 e6 h6 => ?_
  refine c1 (ref_Mul (h5.ext e6).dr h6.dr (by omega) (by omega)) fun s5 w7 e7 h7 => ?_
  have k1 := dz_mul (vl W64 l1) (vl W64 l3)
  refine c1 (ref_To h7.dr (by omega)) fun s6 w8 e8 h8 => ?_
  have e48 := ((e5.trans e6).trans e7).trans e8
  refine c1 (law21_from (ht.ext e48) (by omega)) fun s7 w9 e9 h9 => ?_
  refine c1 (law21_from ((hu.ext e48).ext e9) (by omega)) fun s8 w10 e10 h10 => ?_
  refine c1 (ref_Mul (h9.ext e10).dr h10.dr (by omega) (by omega)) fun s9 w11 e11 h11 => ?_
  have k2 := dz_mul (vl W64 l2) (vl W64 l3)
  refine c1 (ref_To h11.dr (by omega)) fun s10 w12 e12 h12 => ?_
  have e812 := ((e9.trans e10).trans e11).trans e12
  have hA := On.ext h8 e812
  have zA := sz_mul (vl W64 l1) (vl W64 l3)
  have zB := sz_mul (vl W64 l2) (vl W64 l3)
  generalize vl W64 l1 * vl W64 l3 = A at *
  generalize vl W64 l2 * vl W64 l3 = B at *
  have e112 := (((e1.trans e2).trans e3).trans e4).trans (e48.trans e812)
  clear hs ht hu h5 h6 h7 h9 h10 h11
  refine hgcd_mk (t := t) (hG.here.ext e112) fun p w13 hg g po nu ra ro dv rc c m d k' e t tab e13 hE htt hp => ?_
  have z : w.w.heap.size ≤ t := Nat.le_trans e112.size htt
  refine cnd_f (by rw [hp]) ?_
  have hA := On.ext hA e13
  have hB := On.ext h12 e13
  have hT := hE.tz
  refine tM hT (hgcd_Xgcd hE hA.nt hB.nt (by omega) (by omega) (by decide) (by decide)) ?_
  rintro s11 r r1 r2 r3 w14 x14 ⟨⟨G, X, Y, hX, hGs, hx, hy⟩, hE14⟩
  have hA := hA.extT hT x14
  have hB := hB.extT hT x14
  obtain ⟨zG, zX, zY⟩ := hX.sz (n := 32) (by omega) (by omega) (by decide)
  have dG := dz_of_sz zG
  have dX := dz_of_sz zX
  have dY := dz_of_sz zY
  have dA := dz_of_sz (show sz A ≤ 32 by omega)
  have dB := dz_of_sz (show sz B ≤ 32 by omega)
  have nA := hA.len
  have nB := hB.len
  have nX : r.n = sz X.natAbs := hx.1.len
  have nY : r2.n = sz Y.natAbs := hy.1.len
  have FA : ∀ {v : TW} {K : Sl → Bool → TW → Prop}, Ext none_ w14 v → (∀ s n v', Ext none_ v v' → Zr v' s n (A : Int) → K s n v') → cl Pg F.zigguratref17_From [.agg #[s6.v, .bool false]] v [.agg [.slice, .bool]] K := fun {v K} e hK => by
    refine cl0 (ref17_From (z := (A : Int)) ⟨A, (On.ext hA e).nt, by simp⟩ (by omega)) ?_
    rintro s n v' e' ⟨h, -⟩
    exact hK s n v' e' h
  have FB : ∀ {v : TW} {K : Sl → Bool → TW → Prop}, Ext none_ w14 v → (∀ s n v', Ext none_ v v' → Zr v' s n (B : Int) → K s n v') → cl Pg F.zigguratref17_From [.agg #[s10.v, .bool false]] v [.agg [.slice, .bool]] K := fun {v K} e hK => by
    refine cl0 (ref17_From (z := (B : Int)) ⟨B, (On.ext hB e).nt, by simp⟩ (by omega)) ?_
    rintro s n v' e' ⟨h, -⟩
    exact hK s n v' e' h
  have FX : ∀ {v : TW} {K : Sl → Bool → TW → Prop}, Ext none_ w14 v → (∀ s n v', Ext none_ v v' → Zr v' s n X → K s n v') → cl Pg F.zigguratref17_From [.agg #[r.v, .bool r1]] v [.agg [.slice, .bool]] K := fun {v K} e hK => by
    refine cl0 (ref17_From (hx.ext e).iz (by omega)) ?_
    rintro s n v' e' ⟨h, -⟩
    exact hK s n v' e' h
  have FY : ∀ {v : TW} {K : Sl → Bool → TW → Prop}, Ext none_ w14 v → (∀ s n v', Ext none_ v v' → Zr v' s n Y → K s n v') → cl Pg F.zigguratref17_From [.agg #[r2.v, .bool r3]] v [.agg [.slice, .bool]] K := fun {v K} e hK => by
    refine cl0 (ref17_From (hy.ext e).iz (by omega)) ?_
    rintro s n v' e' ⟨h, -⟩
    exact hK s n v' e' h
  have MU : ∀ {v : TW} {s u : Sl} {n m : Bool} {P Q : Int} {K : Sl → Bool → TW → Prop}, Zr v s n P → Zr v u m Q → dz P.natAbs ≤ 64 → dz Q.natAbs ≤ 64 → (∀ s n v', Ext none_ v v' → Zr v' s n (P * Q) → K s n v') → cl Pg F.zigguratref17_Mul [.agg #[s.v, .bool n], .agg #[u.v, .bool m]] v [.agg [.slice, .bool]] K := fun {v s u n m P Q K} h1 h2 z1 z2 hK => by
    refine cl0 (ref17_Mul h1 h2 (by omega) (by omega)) ?_
    rintro s n v' e' ⟨h, -⟩
    exact hK s n v' e' h
  have dAX : dz ((A : Int) * X).natAbs ≤ 128 := by
    rw [Int.natAbs_mul, Int.natAbs_natCast]
    have := dz_mul A X.natAbs
    omega
  have dBY : dz ((B : Int) * Y).natAbs ≤ 128 := by
    rw [Int.natAbs_mul, Int.natAbs_natCast]
    have := dz_mul B Y.natAbs
    omega
  have AD : ∀ {v : TW} {s u : Sl} {n m : Bool} {K : Sl → Bool → TW → Prop}, Zr v s n (A * X) → Zr v u m (B * Y) → (∀ s n v', Ext none_ v v' → Zr v' s n (G : Int) → K s n v') → cl Pg F.zigguratref17_Add [.agg #[s.v, .bool n], .agg #[u.v, .bool m]] v [.agg [.slice, .bool]] K := fun {v s u n m K} h1 h2 hK => by
    refine cl0 (ref17_Add h1 h2 (by omega) (by omega)) ?_
    rintro s n v' e' ⟨h, -⟩
    rw [hX.bez] at h
    exact hK s n v' e' h
  have tail : ∀ {v : TW} {s16 : Sl} {n17 : Bool}, Ext none_ w14 v → Zr v s16 n17 (G : Int) → Jn [.bool] (fun J0 =>
      cl Pg F.zigguratref17_To [.agg #[s16.v, .bool n17]] v [.agg [.slice, .bool]] fun (r18 : Sl) (r19 : Bool) w28 =>
      cl Pg F.zigguratkeep_Int [.agg #[s11.v, .bool false], .agg #[r18.v, .bool r19]] w28 [.one .bool] fun (ok : Bool) w29 =>
      cond ok (
      nck p fun a1 =>
      ldc (.ptr) w29 a1 fun (v : Option Addr) =>
      nwb w29 [s6.v, s10.v] T.api_Nat fun b1 w30 =>
      cl Pg F.gcd_Engine_Gcd [.pointer v, .slice (some ⟨b1, 0, none⟩) 2 2] w30 [.one .slice] fun (s12 : Sl) w31 =>
      cl Pg F.zigguratkeep_Same [s11.v, s12.v] w31 [.one .bool] fun (ok1 : Bool) w32 =>
      cond ok1 (
      cl Pg F.zigguratlaw21_wakes [] w32 [.one .bool] fun (ok2 : Bool) w33 =>
      J0 ok2 w33) (
      J0 false w32)) (
      J0 false w29)) fun (x : Bool) w34 =>
      Rt none_ [.one .bool] (fun (r : Bool) _ => r = true) w (.bool x) w34 := fun {v s16 n17} ev hz => by
    refine j1 (fun (b : Bool) w' => b = true ∧ Xt1 t v w') ?_ ?_
    · refine cl0 (ref17_To hz (by rw [Int.natAbs_natCast]; omega)) ?_
      rintro r18 r19 w28 e28 h28
      rw [Int.natAbs_natCast] at h28
      have e1428 := ev.trans e28
      refine c1_ (keep_Int (On.ext hGs e1428) h28.1 rfl (by rw [h28.2, eq_comm, decide_eq_false_iff_not]; omega)) fun w29 e29 => cnd_t rfl ?_
      have e1429 := e1428.trans e29
      refine (hE14.ext e1429).down fun q1 E1 => ?_
      refine nw2 (On.ext hA e1429).nt (On.ext hB e1429).nt fun b1 w30 h30 e30 => ?_
      have E1 := E1.ext e30
      refine t1 E1.tz (gcd_Gcd (l := ⟨some ⟨b1, 0, none⟩, 2, 2⟩) E1 h30 (getD2 (by omega) (by omega)) (by simp) (by decide) (by decide)) ?_
      rintro s12 w31 x31 ⟨h31, hE31⟩
      have hge : gcdl [A, B] = G := by simp [gcdl, hX.gcd]
      rw [hge] at h31
      refine same_on (On.extT (On.ext hGs (e1429.trans e30)) E1.tz x31) h31 fun w32 e32 => cnd_t rfl ?_
      refine wk21 (hE31.gl.ext e32) fun w33 e33 => ⟨rfl, ?_⟩
      exact ((((e28.trans e29).trans e30).any.trans x31).trans (e32.trans e33).any)
    rintro b w34 ⟨rfl, x34⟩
    exact rt1 (c := .bool) true ((e112.trans e13).own ((x14.trans ev.any).trans x34) fun c hc => by subst hc; exact z) rfl
  intro w15 e15 w16 e16 w17 e17 w18 e18
  have e18d : Ext none_ w14 w18.drew := (((e15.trans e16).trans e17).trans e18).drew
  have nA' : dz ((A : Int)).natAbs ≤ 64 := by rw [Int.natAbs_natCast]; omega
  have nB' : dz ((B : Int)).natAbs ≤ 64 := by rw [Int.natAbs_natCast]; omega
  have dX' : dz X.natAbs ≤ 64 := by omega
  have dY' : dz Y.natAbs ≤ 64 := by omega
  refine ⟨FA e18d fun r4 r5 w19 e19 h19 => ?_, fun v ev => ?_⟩
  · have f19 := e18d.trans e19
    refine ⟨FX f19 fun r6 r7 w20 e20 h20 => ?_, fun v ev => ?_⟩
    · have f20 := f19.trans e20
      refine ⟨MU (h19.ext e20) h20 nA' dX' fun r8 r9 w21 e21 h21 => ?_, fun v ev => ?_⟩
      · have f21 := f20.trans e21
        refine ⟨FB f21 fun r10 r11 w22 e22 h22 => ?_, fun v ev => ?_⟩
        · have f22 := f21.trans e22
          refine ⟨FY f22 fun r12 r13 w23 e23 h23 => ?_, fun v ev => ?_⟩
          · have f23 := f22.trans e23
            refine ⟨MU (h22.ext e23) h23 nB' dY' fun r14 r15 w24 e24 h24 => ?_, fun v ev => ?_⟩
            · have f24 := f23.trans e24
              have h21' := ((h21.ext e22).ext e23).ext e24
              refine ⟨AD h21' h24 fun r16 r17 w25 e25 h25 => ?_, fun v ev => ?_⟩
              · intro w26 e26 w27 e27
                exact tail ((f24.trans e25).trans (e26.trans e27)) (h25.ext (e26.trans e27))
              · refine AD (h21'.ext ev) (h24.ext ev) fun r16 r17 w25 e25 h25 => ?_
                intro w26 e26
                exact tail ((f24.trans ev).trans (e25.trans e26)) (h25.ext e26)
            · refine MU ((h22.ext e23).ext ev) (h23.ext ev) nB' dY' fun r14 r15 w24 e24 h24 => ?_
              refine AD ((((h21.ext e22).ext e23).ext ev).ext e24) h24 fun r16 r17 w25 e25 h25 => ?_
              intro w26 e26
              exact tail (((f23.trans ev).trans e24).trans (e25.trans e26)) (h25.ext e26)
          · have f22 := f22.trans ev
            refine FY f22 fun r12 r13 w23 e23 h23 => ?_
            refine MU ((h22.ext ev).ext e23) h23 nB' dY' fun r14 r15 w24 e24 h24 => ?_
            refine AD ((((h21.ext e22).ext ev).ext e23).ext e24) h24 fun r16 r17 w25 e25 h25 => ?_
            intro w26 e26
            exact tail (((f22.trans e23).trans e24).trans (e25.trans e26)) (h25.ext e26)
        · have f21 := f21.trans ev
          refine FB f21 fun r10 r11 w22 e22 h22 => ?_
          have f22 := f21.trans e22
          refine FY f22 fun r12 r13 w23 e23 h23 => ?_
          refine MU (h22.ext e23) h23 nB' dY' fun r14 r15 w24 e24 h24 => ?_
          refine AD ((((h21.ext ev).ext e22).ext e23).ext e24) h24 fun r16 r17 w25 e25 h25 => ?_
          intro w26 e26
          exact tail (((f22.trans e23).trans e24).trans (e25.trans e26)) (h25.ext e26)
      · have f20 := f20.trans ev
        refine MU ((h19.ext e20).ext ev) (h20.ext ev) nA' dX' fun r8 r9 w21 e21 h21 => ?_
        have f21 := f20.trans e21
        refine FB f21 fun r10 r11 w22 e22 h22 => ?_
        have f22 := f21.trans e22
        refine FY f22 fun r12 r13 w23 e23 h23 => ?_
        refine MU (h22.ext e23) h23 nB' dY' fun r14 r15 w24 e24 h24 => ?_
        refine AD (((h21.ext e22).ext e23).ext e24) h24 fun r16 r17 w25 e25 h25 => ?_
        intro w26 e26
        exact tail (((f22.trans e23).trans e24).trans (e25.trans e26)) (h25.ext e26)
    · have f19 := f19.trans ev
      refine FX f19 fun r6 r7 w20 e20 h20 => ?_
      have f20 := f19.trans e20
      refine MU ((h19.ext ev).ext e20) h20 nA' dX' fun r8 r9 w21 e21 h21 => ?_
      have f21 := f20.trans e21
      refine FB f21 fun r10 r11 w22 e22 h22 => ?_
      have f22 := f21.trans e22
      refine FY f22 fun r12 r13 w23 e23 h23 => ?_
      refine MU (h22.ext e23) h23 nB' dY' fun r14 r15 w24 e24 h24 => ?_
      refine AD (((h21.ext e22).ext e23).ext e24) h24 fun r16 r17 w25 e25 h25 => ?_
      intro w26 e26
      exact tail (((f22.trans e23).trans e24).trans (e25.trans e26)) (h25.ext e26)
  · have f18 := e18d.trans ev
    refine FA f18 fun r4 r5 w19 e19 h19 => ?_
    have f19 := f18.trans e19
    refine FX f19 fun r6 r7 w20 e20 h20 => ?_
    have f20 := f19.trans e20
    refine MU (h19.ext e20) h20 nA' dX' fun r8 r9 w21 e21 h21 => ?_
    have f21 := f20.trans e21
    refine FB f21 fun r10 r11 w22 e22 h22 => ?_
    have f22 := f21.trans e22
    refine FY f22 fun r12 r13 w23 e23 h23 => ?_
    refine MU (h22.ext e23) h23 nB' dY' fun r14 r15 w24 e24 h24 => ?_
    refine AD (((h21.ext e22).ext e23).ext e24) h24 fun r16 r17 w25 e25 h25 => ?_
    intro w26 e26
    exact tail (((f22.trans e23).trans e24).trans (e25.trans e26)) (h25.ext e26)
end Go.Proofs.YticehedkalheiaaGreatDoor.Zg
end
