/- A part of the proofs of this seat's laws: words, lemmas or contracts of its functions. -/
import Derived.Test.YticehedkalheiaaGreatDoorGHB
import Derived.Test.YticehedkalheiaaGreatDoorGJC
set_option linter.unusedVariables false
set_option linter.unusedSimpArgs false
set_option linter.unnecessarySimpa false
section
namespace Go.Proofs.YticehedkalheiaaGreatDoor.Zg
open Go.RowKit
theorem law21_HgcdXgcds {w : TW} {t : HL I11} {a b : Sl} (hG : Gl w) (ha : Arg w a) (hb : Arg w b) : Ct Pg F.zigguratlaw21_HgcdXgcds [.agg (encs I11 t).toArray, a.v, b.v] w none_ [.one .bool] fun (r : Bool) _ => r = true := by
  obtain ⟨la, ha⟩ := ha
  obtain ⟨lb, hb⟩ := hb
  refine Ct.zigguratlaw21_HgcdXgcds ?_
  unfold Sh.zigguratlaw21_HgcdXgcds
  intro w1 e1
  refine cutc (n := 7) (ha.here.ext e1) rfl fun s w2 e2 hs _ => cutc (n := 7) ((hb.here.ext e1).ext e2) rfl fun s1 w3 e3 ht _ => ?_
  have hs := hs.ext e3
  have nla : (la.take 7).length ≤ 7 := by simp; omega
  have nlb : (lb.take 7).length ≤ 7 := by simp; omega
  generalize la.take 7 = l1 at *
  generalize lb.take 7 = l2 at *
  have kx := sz_vl hs.sm
  have ky := sz_vl ht.sm
  have dx := dz_of_sz kx
  have dy := dz_of_sz ky
  have e13 := (e1.trans e2).trans e3
  refine hgcd_mk (t := t) (hG.here.ext e13) fun p w4 hg g po nu ra ro dv rc c m d k' e t tab e4 hE htt hp => ?_
  have z : w.w.heap.size ≤ t := Nat.le_trans e13.size htt
  refine cnd_f (by rw [hp]) ?_
  have hs := hs.ext e4
  have ht := ht.ext e4
  have hT := hE.tz
  refine tM hT (hgcd_Xgcd hE hs.nt ht.nt (by omega) (by omega) (by decide) (by decide)) ?_
  rintro s2 r r1 r2 r3 w5 x5 ⟨⟨G, X, Y, hX, hg', hx, hy⟩, hE5⟩
  have hs := hs.extT hT x5
  have ht := ht.extT hT x5
  intro w6 e6 w7 e7 w8 e8 w9 e9
  have e59 := ((e6.trans e7).trans e8).trans e9
  refine c1 (law21_from (hs.ext e59) (by omega)) fun s3 w10 e10 h3 => ?_
  refine c1 (law21_from ((ht.ext e59).ext e10) (by omega)) fun s4 w11 e11 h4 => ?_
  refine cl0 (r17_Xgcd (h3.dr.ext e11) h4.dr (by omega) (by omega)) ?_
  rintro s5 q0 q1 q2 q3 w12 e12 ⟨G', X', Y', hX', hg2, hx2, hy2⟩
  obtain ⟨rfl, rfl, rfl⟩ := hX.uniq hX'
  obtain ⟨zG, zX, zY⟩ := hX.sz (n := 7) (by omega) (by omega) (by decide)
  have dG := dz_of_sz zG
  have dX := dz_of_sz zX
  have dY := dz_of_sz zY
  intro w13 e13' w14 e14 w15 e15 w16 e16
  have e1216 := (((e13'.trans e14).trans e15).trans e16).drew
  have e516 := (e59.trans e10).trans ((e11.trans e12).trans e1216)
  refine j1 (fun (b : Bool) w' => b = true ∧ Ext none_ w5 w') ?_ ?_
  · refine sm (hg2.ext e1216) (On.ext hg' e516) (by omega) rfl fun w17 e17 => cnd_t rfl ?_
    have e517 := e516.trans e17
    refine cl0 (ref17_To ((hx2.ext e1216).ext e17) (by omega)) ?_
    rintro r8 r9 w18 e18 h8
    refine same_i ((hx.ext e517).ext e18) h8 fun w19 e19 => cnd_t rfl ?_
    have e1619 := (e17.trans e18).trans e19
    refine cl0 (ref17_To ((hy2.ext e1216).ext e1619) (by omega)) ?_
    rintro r10 r11 w20 e20 h10
    refine same_i (((hy.ext e516).ext e1619).ext e20) h10 fun w21 e21 => cnd_t rfl ?_
    have e521 := (e516.trans e1619).trans (e20.trans e21)
    exact wk21 (hE5.ext e521).gl fun w22 e22 => ⟨rfl, e521.trans e22⟩
  rintro b w23 ⟨rfl, e23⟩
  exact rt1 (c := .bool) true ((e13.trans e4).own (x5.trans e23.any) fun c hc => by subst hc; exact z) rfl
theorem law21_HgcdHalves {w : TW} {t : HL I11} {a b : Sl} (hG : Gl w) (ha : Arg w a) (hb : Arg w b) : Ct Pg F.zigguratlaw21_HgcdHalves [.agg (encs I11 t).toArray, a.v, b.v] w none_ [.one .bool] fun (r : Bool) _ => r = true := by
  obtain ⟨la, ha⟩ := ha
  obtain ⟨lb, hb⟩ := hb
  refine Ct.zigguratlaw21_HgcdHalves ?_
  unfold Sh.zigguratlaw21_HgcdHalves
  intro w1 e1
  refine cutc (n := 10) (ha.here.ext e1) rfl fun s w2 e2 hs _ => cutc (n := 10) ((hb.here.ext e1).ext e2) rfl fun s1 w3 e3 ht _ => ?_
  have hs := hs.ext e3
  have nla : (la.take 10).length ≤ 10 := by simp; omega
  have nlb : (lb.take 10).length ≤ 10 := by simp; omega
  generalize la.take 10 = l1 at *
  generalize lb.take 10 = l2 at *
  have kx := sz_vl hs.sm
  have ky := sz_vl ht.sm
  have dx := dz_of_sz kx
  have dy := dz_of_sz ky
  have e13 := (e1.trans e2).trans e3
  refine hgcd_mk (t := t) (hG.here.ext e13) fun p w4 hg g po nu ra ro dv rc c m d k' e t tab e4 hE htt hp => ?_
  have z : w.w.heap.size ≤ t := Nat.le_trans e13.size htt
  refine cnd_f (by rw [hp]) ?_
  have hs := hs.ext e4
  have ht := ht.ext e4
  have hT := hE.tz
  refine tM hT (hgcd_Half hE hs.nt ht.nt (by omega) (by omega) (by decide) (by decide)) ?_
  rintro m0 m1 m2 m3 cs ds w5 x5 ⟨⟨N, A, B, C, D, cc, dd, hSt, hO, hc, hd⟩, hE5⟩
  have hs := hs.extT hT x5
  have ht := ht.extT hT x5
  intro w6 e6 w7 e7
  have e57 := e6.trans e7
  have hs := hs.ext e57
  have ht := ht.ext e57
  refine c1 (api_Bits hs.nt (by omega)) ?_
  rintro _ w8 e8 rfl
  have hbx := bl_sz (vl W64 l1)
  refine divNi (x := bl (vl W64 l1)) (y := 2) rfl rfl (by omega) (by decide) ?_
  have hs := hs.ext e8
  have ht := ht.ext e8
  refine c1 (law21_from hs (by omega)) fun s4 w9 e9 h4 => ?_
  refine c1 (law21_from (ht.ext e9) (by omega)) fun s5 w10 e10 h5 => ?_
  refine cl0 (r17_Steps (K := ((bl (vl W64 l1) / 2 : Nat) : Int)) (h4.dr.ext e10) h5.dr (by omega) (by omega)) ?_
  rintro q0 q1 q2 q3 s6 s7 n' w11 e11 ⟨N', A', B', C', D', cc', dd', rfl, hSt', hM, hc', hd'⟩
  rw [Int.toNat_natCast] at hSt'
  obtain ⟨rfl, rfl, rfl, rfl, rfl, rfl, rfl⟩ := hSt.uniq hSt'
  obtain ⟨hZ, zc, zd⟩ := hSt.1.z4 (n := 20) (by omega) (by omega) (by decide)
  obtain ⟨hS, yc, yd⟩ := hSt.1.s4 (n := 10) (by omega) (by omega) (by decide)
  intro w12 e12 w13 e13'
  have e1113 := e12.trans e13'
  have e813 := (e9.trans e10).trans (e11.trans e1113)
  have e513 := (e57.trans e8).trans e813
  have hO := hO.ext e513
  have hc := On.ext hc e513
  have hd := On.ext hd e513
  have hM := hM.ext e1113
  have hc' := hc'.ext e1113
  have hd' := hd'.ext e1113
  have hs := hs.ext e813
  have ht := ht.ext e813
  have hE13 := hE5.ext e513
  refine ⟨fun (z : Bool) (n0 n1 n2 n3 : Sl) w18 => z = false ∧ n0 = m0 ∧ n1 = m1 ∧ n2 = m2 ∧ n3 = m3 ∧ Ext none_ w13 w18, ?_, ?_⟩
  · refine c1 (r17_SameM hM hO (hZ.le (by decide))) ?_
    rintro r w14 e14 rfl
    refine cnd_f rfl ?_
    refine sm (hc'.ext e14) (On.ext hc e14) (by omega) rfl fun w15 e15 => cnd_f rfl ?_
    have e1315 := e14.trans e15
    refine sm (hd'.ext e1315) (On.ext hd e1315) (by omega) rfl fun w16 e16 => cnd_f rfl ?_
    have e1316 := e1315.trans e16
    refine c1 (api_Bits (On.ext hd e1316).nt (by omega)) ?_
    rintro _ w17 e17 rfl
    refine ⟨?_, rfl, rfl, rfl, rfl, e1316.trans e17⟩
    rw [decide_eq_false_iff_not]
    have := hSt.2.1
    omega
  rintro _ n0 n1 n2 n3 w18 ⟨rfl, rfl, rfl, rfl, rfl, e18⟩
  refine cnd_f rfl ?_
  have hE18 := hE13.ext e18
  obtain ⟨y1, y2, y3, y4⟩ := hS
  refine t2 hE18.tz (hgcd_Apply hE18 (hO.ext e18).n (On.ext hc e18).nt (On.ext hd e18).nt ⟨by omega, by omega, by omega, by omega⟩ (by omega) (by omega) (by decide) (by decide)) ?_
  rintro s8 s9 w19 x19 ⟨h8, h9, hE19⟩
  rw [← hSt.1.eqs.1] at h8
  rw [← hSt.1.eqs.2] at h9
  have hs := (hs.ext e18).extT hE18.tz x19
  have ht := (ht.ext e18).extT hE18.tz x19
  refine j1 (fun (b : Bool) w' => b = true ∧ Ext none_ w19 w') ?_ ?_
  · refine c1 (law21_from hs (by omega)) fun s10 w20 e20 h10 => ?_
    refine sm h10.dr (On.ext h8 e20) (by omega) rfl fun w21 e21 => cnd_t rfl ?_
    have e1921 := e20.trans e21
    refine c1 (law21_from (ht.ext e1921) (by omega)) fun s11 w22 e22 h11 => ?_
    refine sm h11.dr (On.ext h9 (e1921.trans e22)) (by omega) rfl fun w23 e23 => cnd_t rfl ?_
    have e1923 := (e1921.trans e22).trans e23
    exact wk21 (hE19.ext e1923).gl fun w24 e24 => ⟨rfl, e1923.trans e24⟩
  rintro b w25 ⟨rfl, e25⟩
  exact rt1 (c := .bool) true ((e13.trans e4).own (((x5.trans e513.any).trans (e18.any.trans x19)).trans e25.any) fun c hc => by subst hc; exact z) rfl
theorem law21_same {w : TW} {H H' : Nat} {a b c d a' b' c' d' : Sl} {A B C D : Nat} (h : O4 w H a b c d A B C D) (h' : O4 w H' a' b' c' d' A B C D) : Ct Pg F.zigguratlaw21_same [.agg #[a.v, b.v, c.v, d.v], .agg #[a'.v, b'.v, c'.v, d'.v]] w none_ [.one .bool] fun (r : Bool) _ => r = true := by
  refine Ct.zigguratlaw21_same ?_
  unfold Sh.zigguratlaw21_same
  intro w1 e1 w2 e2
  have e12 := e1.trans e2
  have h : O4 w2 H a b c d A B C D := O4.ext ⟨Ow.here h.a, Ow.here h.b, Ow.here h.c, Ow.here h.d⟩ e12
  have h' : O4 w2 H' a' b' c' d' A B C D := O4.ext ⟨Ow.here h'.a, Ow.here h'.b, Ow.here h'.c, Ow.here h'.d⟩ e12
  refine j1 (fun (b : Bool) w' => b = true ∧ Ext none_ w2 w') ?_ ?_
  · refine same_on h.a h'.a fun w3 e3 => cnd_t rfl ?_
    refine same_on (h.ext e3).b (h'.ext e3).b fun w4 e4 => cnd_t rfl ?_
    have e34 := e3.trans e4
    refine same_on (h.ext e34).c (h'.ext e34).c fun w5 e5 => cnd_t rfl ?_
    have e35 := e34.trans e5
    exact same_on (h.ext e35).d (h'.ext e35).d fun w6 e6 => ⟨rfl, e35.trans e6⟩
  rintro r w7 ⟨rfl, e7⟩
  exact rt1 (c := .bool) true (e12.trans e7) rfl
end Go.Proofs.YticehedkalheiaaGreatDoor.Zg
end

section
namespace Go.Proofs.YticehedkalheiaaGreatDoor.Zg
open Go.RowKit
/-- A call that answers true. -/
theorem c1_ {P : Program} {f : FuncId} {args : List Value} {w : TW} {K : Bool → TW → Prop} (h : Ct P f args w none_ [.one .bool] fun (r : Bool) _ => r = true) (hK : ∀ w', Ext none_ w w' → K true w') : cl P f args w [.one .bool] K := c1 h (by rintro r w' e rfl; exact hK w' e)
set_option maxHeartbeats 400000 in
theorem law21_HgcdTables {w : TW} {t u : HL I11} {a b : Sl} {k : Int} (hG : Gl w) (ha : Arg w a) (hb : Arg w b) (_ : -9223372036854775808 ≤ k ∧ k ≤ 9223372036854775807) : Ct Pg F.zigguratlaw21_HgcdTables [.agg (encs I11 t).toArray, .agg (encs I11 u).toArray, a.v, b.v, .int .i64 k] w none_ [.one .bool] fun (r : Bool) _ => r = true := by
  obtain ⟨la, ha⟩ := ha
  obtain ⟨lb, hb⟩ := hb
  refine Ct.zigguratlaw21_HgcdTables ?_
  unfold Sh.zigguratlaw21_HgcdTables
  intro w1 e1 w2 e2
  have e2 := e1.trans e2
  refine cutc (n := 30) (ha.here.ext e2) rfl fun s w3 e3 hs _ => cutc (n := 30) ((hb.here.ext e2).ext e3) rfl fun s1 w4 e4 ht _ => ?_
  have hs := hs.ext e4
  have nla : (la.take 30).length ≤ 30 := by simp; omega
  have nlb : (lb.take 30).length ≤ 30 := by simp; omega
  generalize la.take 30 = l1 at *
  generalize lb.take 30 = l2 at *
  have kx := sz_vl hs.sm
  have ky := sz_vl ht.sm
  have e4 := ((e2.trans e3).trans e4).drew
  have hx := hs.nt.drew
  have hy := ht.nt.drew
  generalize vl W64 l1 = x at *
  generalize vl W64 l2 = y at *
  clear hs ht e3
  refine hgcd_mk (t := t) (hG.here.ext e4) fun p w5 hg g po nu ra ro dv rc c m d k' e t tab e5 hE htt hp => ?_
  refine hgcd_mk (t := u) hE.gl fun p1 w6 hg' g' po' nu' ra' ro' dv' rc' c' m' d' k'' e' t' tab' e6 hF htt' hp' => ?_
  have z : w.w.heap.size ≤ t := Nat.le_trans e4.size htt
  have z' : w.w.heap.size ≤ t' := Nat.le_trans (e4.trans e5).size htt'
  have hne : t ≠ t' := by have := hE.lt; omega
  have hE := hE.ext e6
  have e16 := (e4.trans e5).trans e6
  have hx := (hx.ext e5).ext e6
  have hy := (hy.ext e5).ext e6
  have L : ∀ {v v' : TW}, Xt1 t v v' → Ext (fun c => c = t ∨ c = t') v v' := fun h => h.weak fun c h => .inl h
  have R : ∀ {v v' : TW}, Xt1 t' v v' → Ext (fun c => c = t ∨ c = t') v v' := fun h => h.weak fun c h => .inr h
  refine j1 (fun (b : Bool) w' => b = false ∧ w' = w6) ?_ ?_
  · exact cnd_f (by rw [hp]) ⟨hp', rfl⟩
  rintro _ _ ⟨rfl, rfl⟩
  refine cnd_f rfl ?_
  refine tM hE.tz (hgcd_Half hE hx hy (by omega) (by omega) (by decide) (by decide)) ?_
  rintro a0 a1 a2 a3 cs ds w8 x8 ⟨⟨N1, A1, B1, C1, D1, c1, d1, hSt1, hO1, hc1, hd1⟩, hE8⟩
  have hF := hF.other hE.tz hne.symm x8
  have hx := hx.extT hE.tz x8
  have hy := hy.extT hE.tz x8
  intro w9 e9 w10 e10
  have e810 := e9.trans e10
  have hE := hE8.ext e810
  have hF := hF.ext e810
  have hx := hx.ext e810
  have hy := hy.ext e810
  have hO1 := hO1.ext e810
  have hc1 := On.ext hc1 e810
  have hd1 := On.ext hd1 e810
  have X10 := (L x8).trans e810.any
  refine tM hF.tz (hgcd_Half hF hx hy (by omega) (by omega) (by decide) (by decide)) ?_
  rintro b0 b1 b2 b3 cs' ds' w11 x11 ⟨⟨N2, A2, B2, C2, D2, c2, d2, hSt2, hO2, hc2, hd2⟩, hF11⟩
  obtain ⟨rfl, rfl, rfl, rfl, rfl, rfl, rfl⟩ := hSt1.uniq hSt2
  have hE := hE.other hF.tz hne x11
  have hx := hx.extT hF.tz x11
  have hy := hy.extT hF.tz x11
  have hO1 := hO1.extT hF.tz x11
  have hc1 := hc1.extT hF.tz x11
  have hd1 := hd1.extT hF.tz x11
  intro w12 e12 w13 e13
  have e1113 := e12.trans e13
  have hE := hE.ext e1113
  have hF := hF11.ext e1113
  have hx := hx.ext e1113
  have hy := hy.ext e1113
  have hO1 := hO1.ext e1113
  have hc1 := On.ext hc1 e1113
  have hd1 := On.ext hd1 e1113
  have hO2 := hO2.ext e1113
  have hc2 := On.ext hc2 e1113
  have hd2 := On.ext hd2 e1113
  have X13 := (X10.trans (R x11)).trans e1113.any
  refine tM hE.tz (hgcd_Steps (K := k) hE hx hy (by omega) (by omega) (by decide) (by decide)) ?_
  rintro m0 m1 m2 m3 es fs n w14 x14 ⟨⟨N3, A3, B3, C3, D3, c3, d3, rfl, hSt3, hO3, hc3, hd3⟩, hE14⟩
  have hF := hF.other hE.tz hne.symm x14
  have hx := hx.extT hE.tz x14
  have hy := hy.extT hE.tz x14
  have hO1 := hO1.extT hE.tz x14
  have hc1 := hc1.extT hE.tz x14
  have hd1 := hd1.extT hE.tz x14
  have hO2 := hO2.extT hE.tz x14
  have hc2 := hc2.extT hE.tz x14
  have hd2 := hd2.extT hE.tz x14
  intro w15 e15 w16 e16'
  have e1416 := e15.trans e16'
  have hE := hE14.ext e1416
  have hF := hF.ext e1416
  have hx := hx.ext e1416
  have hy := hy.ext e1416
  have hO3 := hO3.ext e1416
  have hc3 := On.ext hc3 e1416
  have hd3 := On.ext hd3 e1416
  have hO1 := hO1.ext e1416
  have hc1 := On.ext hc1 e1416
  have hd1 := On.ext hd1 e1416
  have hO2 := hO2.ext e1416
  have hc2 := On.ext hc2 e1416
  have hd2 := On.ext hd2 e1416
  have X16 := (X13.trans (L x14)).trans e1416.any
  refine tM hF.tz (hgcd_Steps (K := k) hF hx hy (by omega) (by omega) (by decide) (by decide)) ?_
  rintro n0 n1 n2 n3 es' fs' n' w17 x17 ⟨⟨N4, A4, B4, C4, D4, c4, d4, rfl, hSt4, hO4, hc4, hd4⟩, hF17⟩
  obtain ⟨rfl, rfl, rfl, rfl, rfl, rfl, rfl⟩ := hSt3.uniq hSt4
  have hE := hE.other hF.tz hne x17
  have hx := hx.extT hF.tz x17
  have hy := hy.extT hF.tz x17
  have hO1 := hO1.extT hF.tz x17
  have hc1 := hc1.extT hF.tz x17
  have hd1 := hd1.extT hF.tz x17
  have hO2 := hO2.extT hF.tz x17
  have hc2 := hc2.extT hF.tz x17
  have hd2 := hd2.extT hF.tz x17
  have hO3 := hO3.extT hF.tz x17
  have hc3 := hc3.extT hF.tz x17
  have hd3 := hd3.extT hF.tz x17
  intro w18 e18 w19 e19
  have e1719 := e18.trans e19
  have hE := hE.ext e1719
  have hF := hF17.ext e1719
  have hx := hx.ext e1719
  have hy := hy.ext e1719
  have hO1 := hO1.ext e1719
  have hc1 := On.ext hc1 e1719
  have hd1 := On.ext hd1 e1719
  have hO2 := hO2.ext e1719
  have hc2 := On.ext hc2 e1719
  have hd2 := On.ext hd2 e1719
  have hO3 := hO3.ext e1719
  have hc3 := On.ext hc3 e1719
  have hd3 := On.ext hd3 e1719
  have hO4 := hO4.ext e1719
  have hc4 := On.ext hc4 e1719
  have hd4 := On.ext hd4 e1719
  have X19 := (X16.trans (R x17)).trans e1719.any
  refine tM hE.tz (hgcd_Xgcd hE hx hy (by omega) (by omega) (by decide) (by decide)) ?_
  rintro gs r1 r2 r3 r4 w20 x20 ⟨⟨G, X, Y, hX, hg1, hx1, hy1⟩, hE20⟩
  have hF := hF.other hE.tz hne.symm x20
  have hx := hx.extT hE.tz x20
  have hy := hy.extT hE.tz x20
  have hO1 := hO1.extT hE.tz x20
  have hc1 := hc1.extT hE.tz x20
  have hd1 := hd1.extT hE.tz x20
  have hO2 := hO2.extT hE.tz x20
  have hc2 := hc2.extT hE.tz x20
  have hd2 := hd2.extT hE.tz x20
  have hO3 := hO3.extT hE.tz x20
  have hc3 := hc3.extT hE.tz x20
  have hd3 := hd3.extT hE.tz x20
  have hO4 := hO4.extT hE.tz x20
  have hc4 := hc4.extT hE.tz x20
  have hd4 := hd4.extT hE.tz x20
  intro w21 e21 w22 e22 w23 e23 w24 e24
  have e2024 := ((e21.trans e22).trans e23).trans e24
  have hE := hE20.ext e2024
  have hF := hF.ext e2024
  have hx := hx.ext e2024
  have hy := hy.ext e2024
  have hg1 := On.ext hg1 e2024
  have hx1 := hx1.ext e2024
  have hy1 := hy1.ext e2024
  have X24 := (X19.trans (L x20)).trans e2024.any
  refine tM hF.tz (hgcd_Xgcd hF hx hy (by omega) (by omega) (by decide) (by decide)) ?_
  rintro gs' q1 q2 q3 q4 w25 x25 ⟨⟨G', X', Y', hX', hg2, hx2, hy2⟩, hF25⟩
  obtain ⟨rfl, rfl, rfl⟩ := hX.uniq hX'
  have hg1 := hg1.extT hF.tz x25
  have hx1 := hx1.extT hF.tz x25
  have hy1 := hy1.extT hF.tz x25
  intro w26 e26 w27 e27 w28 e28 w29 e29
  have e2529 := ((e26.trans e27).trans e28).trans e29
  have X29 := (X24.trans (R x25)).trans e2529.any
  refine j1 (fun (b : Bool) w' => b = true ∧ Ext none_ w29 w') ?_ ?_
  · have T : ∀ {H : Nat} {s : Sl} {x : Nat}, On w20 H s x → On w29 H s x := fun h => On.ext (On.extT (On.ext h e2024) hF.tz x25) e2529
    refine c1_ (law21_same ⟨T hO1.a, T hO1.b, T hO1.c, T hO1.d⟩ ⟨T hO2.a, T hO2.b, T hO2.c, T hO2.d⟩) fun w30 e30 => cnd_t rfl ?_
    refine same_on (On.ext (T hc1) e30) (On.ext (T hc2) e30) fun w31 e31 => cnd_t rfl ?_
    have e31 := e30.trans e31
    refine same_on (On.ext (T hd1) e31) (On.ext (T hd2) e31) fun w32 e32 => cnd_t rfl ?_
    have e32 := e31.trans e32
    refine c1_ (law21_same ⟨On.ext (T hO3.a) e32, On.ext (T hO3.b) e32, On.ext (T hO3.c) e32, On.ext (T hO3.d) e32⟩ ⟨On.ext (T hO4.a) e32, On.ext (T hO4.b) e32, On.ext (T hO4.c) e32, On.ext (T hO4.d) e32⟩) fun w33 e33 => cnd_t rfl ?_
    have e33 := e32.trans e33
    refine same_on (On.ext (T hc3) e33) (On.ext (T hc4) e33) fun w34 e34 => cnd_t rfl ?_
    have e34 := e33.trans e34
    refine same_on (On.ext (T hd3) e34) (On.ext (T hd4) e34) fun w35 e35 => cnd_t rfl (cnd_t (by simp) ?_)
    have e35 := e34.trans e35
    have g1 := On.ext hg1 e2529
    have g2 := On.ext hg2 e2529
    refine same_on (On.ext g1 e35) (On.ext g2 e35) fun w36 e36 => cnd_t rfl ?_
    have e36 := e35.trans e36
    refine same_i ((hx1.ext e2529).ext e36) ((hx2.ext e2529).ext e36) fun w37 e37 => cnd_t rfl ?_
    have e37 := e36.trans e37
    refine same_i ((hy1.ext e2529).ext e37) ((hy2.ext e2529).ext e37) fun w38 e38 => cnd_t rfl ?_
    have e38 := e37.trans e38
    exact wk21 ((hF25.ext e2529).ext e38).gl fun w39 e39 => ⟨rfl, e38.trans e39⟩
  rintro b w40 ⟨rfl, e40⟩
  exact rt1 (c := .bool) true (e16.own (X29.trans e40.any) fun c hc => hc.elim (fun h => by subst h; exact z) fun h => by subst h; exact z') rfl
end Go.Proofs.YticehedkalheiaaGreatDoor.Zg
end
