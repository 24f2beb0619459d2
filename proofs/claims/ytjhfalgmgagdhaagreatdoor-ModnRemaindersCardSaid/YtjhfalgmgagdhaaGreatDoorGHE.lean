/- A part of the proofs of this seat's laws: words, lemmas or contracts of its functions. -/
import Derived.Test.YtjhfalgmgagdhaaGreatDoorGHD
set_option linter.unusedVariables false
set_option linter.unusedSimpArgs false
set_option linter.unnecessarySimpa false
section
namespace Go.Proofs.YtjhfalgmgagdhaaGreatDoor.Zg
open Go.RowKit
abbrev S2t : Type := Sl × Sl
abbrev N2t : Type := Nat × Nat
def p2v (t : S2t) : List Value := [t.1.v, t.2.v]
theorem p2v_len (t : S2t) : (p2v t).length = 2 := rfl
theorem p2v_one (t : S2t) : ∀ v ∈ p2v t, v.oneCell' = true := by
 intro v hv
 simp [p2v] at hv
 rcases hv with rfl | rfl <;> rfl
theorem p2v_ne (l : List S2t) : ∀ v ∈ l.flatMap p2v, ∀ x : Int, v ≠ .int .i64 x := by
 intro v hv x
 obtain ⟨n, _, hn⟩ := List.mem_flatMap.1 hv
 simp [p2v] at hn
 rcases hn with rfl | rfl <;> simp
structure Rp (w : TW) (s : Sl) (ps : List N2t) : Prop where
 ex : ∃ ts : List S2t, Rdv w 2 s (ts.flatMap p2v) ∧ ts.length = ps.length ∧ ∀ i, ∀ h : i < ts.length, Nt w ts[i].1 (ps.getD i (0, 0)).1 ∧ Nt w ts[i].2 (ps.getD i (0, 0)).2
theorem Rp.here {w : TW} {s : Sl} {ps : List N2t} (h : Rp w s ps) : Rp w.here s ps := by
 obtain ⟨ts, h1, h2, h3⟩ := h.ex
 exact ⟨ts, h1.here, h2, fun i hi => ⟨(h3 i hi).1.here, (h3 i hi).2.here⟩⟩
theorem Rp.ext {w w' : TW} {s : Sl} {ps : List N2t} (h : Rp w s ps) (e : Ext none_ w w') : Rp w' s ps := by
 obtain ⟨ts, h1, h2, h3⟩ := h.ex
 exact ⟨ts, h1.extN e, h2, fun i hi => ⟨(h3 i hi).1.ext e, (h3 i hi).2.ext e⟩⟩
theorem Rp.extT {w w' : TW} {b : Nat} {s : Sl} {ps : List N2t} (h : Rp w s ps) (hT : Tz w b) (e : Xt1 b w w') : Rp w' s ps := by
 obtain ⟨ts, h1, h2, h3⟩ := h.ex
 exact ⟨ts, h1.extT (p2v_ne ts) hT e, h2, fun i hi => ⟨(h3 i hi).1.extT hT e, (h3 i hi).2.extT hT e⟩⟩
theorem Rp.len {w : TW} {s : Sl} {ps : List N2t} (h : Rp w s ps) : s.n = ps.length := by
 obtain ⟨ts, h1, h2, h3⟩ := h.ex
 rw [h1.lenk p2v_len (by decide), h2]
theorem Rp.ix {w : TW} {s : Sl} {ps : List N2t} (h : Rp w s ps) {i : Int} {j : Nat} (hi : i = j) (hj : j < ps.length) {K : Sl → Sl → Prop} (hK : ∀ u v, Nt w u (ps.getD j (0, 0)).1 → Nt w v (ps.getD j (0, 0)).2 → K u v) :
  ixa s i 2 fun a => ldc (.slice) w (a.add 0) fun (v : Sl) => ldc (.slice) w (a.add 1) fun (v1 : Sl) => K v v1 := by
 obtain ⟨ts, h1, h2, h3⟩ := h.ex
 have hj' : j < ts.length := by omega
 exact h1.atk p2v_len (by decide) hi hj' fun a ha => ⟨_, ha 0 (by decide), _, ha 1 (by decide), hK _ _ (h3 j hj').1 (h3 j hj').2⟩
theorem crt_dif {r R m inv dif : Nat} (hm : 0 < m) (h : dif + R % m = r % m ∨ dif + R % m = r % m + m) : ((dif * inv % m : Nat) : Int) % m = (((r : Int) - R) * inv) % m := by
 have e1 := Nat.div_add_mod r m
 have e2 := Nat.div_add_mod R m
 obtain ⟨K, hK⟩ : ∃ K : Int, (dif : Int) = ((r : Int) - R) + m * K := by
  have f1 : (r : Int) = m * (r / m : Nat) + (r % m : Nat) := by rw [← Int.natCast_mul, ← Int.natCast_add, e1]
  have f2 : (R : Int) = m * (R / m : Nat) + (R % m : Nat) := by rw [← Int.natCast_mul, ← Int.natCast_add, e2]
  generalize r / m = a at *
  generalize R / m = b at *
  generalize r % m = c at *
  generalize R % m = d at *
  rcases h with h | h
  ·refine ⟨(b : Int) - a, ?_⟩
   have h' : (dif : Int) = c - d := by omega
   rw [h', f1, f2]; grind
  ·refine ⟨(b : Int) - a + 1, ?_⟩
   have h' : (dif : Int) = c + m - d := by omega
   rw [h', f1, f2]; grind
 rw [Int.natCast_emod, Int.emod_emod_of_dvd _ (Int.dvd_refl _), Int.natCast_mul, hK, show (((r : Int) - R) + m * K) * inv = ((r : Int) - R) * inv + m * (K * inv) by grind, Int.add_mul_emod_self_left]
theorem map2_take {ps : List N2t} {j : Nat} (h : j < ps.length) : (ps.take (j + 1)) = ps.take j ++ [ps.getD j (0, 0)] := by
 rw [List.take_succ_eq_append_getElem h]
 simp [h]
theorem cop_take {ps : List N2t} (h : Cop (ps.map (·.2))) (j : Nat) : Cop ((ps.take j).map (·.2)) := by
 have := List.take_append_drop j ps
 rw [← this, List.map_append, Cop, List.pairwise_append] at h
 exact h.1
section
variable {w : TW} {p : Option Addr} {mo hg g po nu ra ro dv rc c m d k e t : Nat} {now : Int} {tab : List Int}
abbrev R3c : List VT := [.agg [.slice, .slice], .one (.int .i64)]
set_option maxHeartbeats 1600000 in
theorem modn_Crt {l : Sl} {ps : List N2t} (hE : Eg w p [mo, hg, g, po, nu, ra, ro, dv, rc, c, m, d, k, e] t now tab) (hl : Rp w l ps) (hz : ∀ i, sz (ps.getD i (0, 0)).1 ≤ 64 ∧ sz (ps.getD i (0, 0)).2 ≤ 64) (hn : ps.length ≤ 16) (h0 : 0 ≤ now) (h1 : now ≤ 1000000000000000000) :
  Ct Pg F.modn_Engine_Crt [.pointer p, l.v] w (fun k => k = t) R3c fun (s u : Sl) (er : Int) w' => ((∃ q ∈ ps, q.2 = 0) → s = Sl.nil ∧ u = Sl.nil ∧ er = 2) ∧ ((∀ q ∈ ps, 0 < q.2) → ¬ Cop (ps.map (·.2)) → s = Sl.nil ∧ u = Sl.nil ∧ er = 4) ∧
   ((∀ q ∈ ps, 0 < q.2) → Cop (ps.map (·.2)) → er = 0 ∧ ∃ R, Crs ps R ∧ On w' w.w.heap.size s R ∧ On w' w.w.heap.size u (prodl (ps.map (·.2)))) ∧ Eg w' p [mo, hg, g, po, nu, ra, ro, dv, rc, c, m, d, k, e] t now tab := by
 refine Ct.modn_Engine_Crt ?_
 unfold Sh.modn_Engine_Crt
 have nl := hl.len
 rw [nl]
 intro w1 e1
 have hl := hl.here.ext e1
 have hE := hE.here.ext e1
 refine j2 (fun (_ _ : Sl) w7 => (∀ i, i < ps.length → 0 < (ps.getD i (0, 0)).2) ∧ Ext none_ w1 w7) ?_ ?_
 ·refine lp3 (fun M (i : Int) (_ _ : Sl) w2 => ∃ j : Nat, i = j ∧ M = ps.length - j ∧ j ≤ ps.length ∧ (∀ i, i < j → 0 < (ps.getD i (0, 0)).2) ∧ Ext none_ w1 w2) ps.length ⟨0, rfl, by omega, by omega, fun i h => by omega, Ext.refl _ _⟩ ?_
  rintro M i _ _ w2 ⟨j, rfl, rfl, hj, hp, e2⟩
  refine cnd_d (fun h => ?_) (fun h => ?_)
  ·have hj1 : j < ps.length := by omega
   refine (hl.ext e2).ix rfl hj1 fun u v _ hv => ?_
   intro w3 e3 w4 e4
   refine c1 (api_Zero ((hv.ext e3).ext e4)) ?_
   rintro _ w5 e5 rfl
   have e25 := (e3.trans e4).trans e5
   refine cnd_d (fun hv0 => ?_) (fun hv0 => ?_)
   ·intro w6 e6
    have hmem : ps.getD j (0, 0) ∈ ps := by rw [List.getD_eq_getElem?_getD, List.getElem?_eq_getElem hj1]; exact List.getElem_mem hj1
    have e16 := e2.trans (e25.trans e6)
    refine ⟨(Sl.nil, Sl.nil, _, ()), rfl, (e1.trans e16).any, fun _ => ⟨rfl, rfl, rfl⟩, fun hq => ?_, fun hq => ?_, (hE.ext e16).at⟩
    ·have := hq _ hmem; omega
    ·have := hq _ hmem; omega
   ·refine bnd_eq (y := ((j + 1 : Nat) : Int)) (by show wi ((j : Int) + 1) = _; rw [wi_id (by omega) (by omega)]; omega) ⟨ps.length - (j + 1), by omega, j + 1, rfl, rfl, by omega, fun i hi => ?_, e2.trans e25⟩
    rcases Nat.lt_or_ge i j with h | h
    ·exact hp i h
    ·rw [show i = j by omega]; exact Nat.pos_of_ne_zero hv0
  ·have : j = ps.length := by omega
   subst this
   exact ⟨hp, e2⟩
 rintro _ _ w7 ⟨hpos, e7⟩
 have hpos' : ∀ q ∈ ps, 0 < q.2 := fun q hq => by
  obtain ⟨i, hi, rfl⟩ := List.getElem_of_mem hq
  have := hpos i hi
  simpa [List.getD_eq_getElem?_getD, hi] using this
 have hno : ¬ ∃ q ∈ ps, q.2 = 0 := fun ⟨q, hq, h⟩ => by have := hpos' q hq; omega
 refine c1 (limb_One (y := 1) (by decide)) fun s w8 e8 hs => ?_
 intro w9 e9 w10 e10
 have e810 := e9.trans e10
 have e110 := (e7.trans e8).trans e810
 have y10 := e1.trans e110
 have hs := (On.ext hs e810).less (e1.trans e7).size
 have hE := hE.ext e110
 have hl := hl.ext e110
 refine j4 (fun (_ _ : Sl) (s u : Sl) w29 => (Cop (ps.map (·.2)) ∧ ∃ R, Crs ps R ∧ On w29 w.w.heap.size s R ∧ On w29 w.w.heap.size u (prodl (ps.map (·.2)))) ∧ Xt1 t w10 w29 ∧ Eg w29 p [mo, hg, g, po, nu, ra, ro, dv, rc, c, m, d, k, e] t now tab) ?_ ?_
 ·refine lp5 (fun M (i : Int) (_ _ : Sl) (s u : Sl) w11 => ∃ (j : Nat) (R P : Nat), i = j ∧ M = ps.length - j ∧ j ≤ ps.length ∧ Cop ((ps.take j).map (·.2)) ∧ Crs (ps.take j) R ∧ P = prodl ((ps.take j).map (·.2)) ∧ sz R ≤ 64 * j + 1 ∧ sz P ≤ 64 * j + 1 ∧ On w11 w.w.heap.size s R ∧ On w11 w.w.heap.size u P ∧ Xt1 t w10 w11 ∧ Eg w11 p [mo, hg, g, po, nu, ra, ro, dv, rc, c, m, d, k, e] t now tab) ps.length ⟨0, 0, 1, rfl, by omega, by omega, List.Pairwise.nil, Crs.nil, rfl, by rw [sz0]; omega, sz_word (by decide), On.nil _ _, hs, Ext.refl _ _, hE⟩ ?_
  clear hs
  rintro M i _ _ s u w11 ⟨j, R, P, rfl, rfl, hj, hco, hcr, hP, zR, zP, hs, hu, x11, hE11⟩
  refine cnd_d (fun h => ?_) (fun h => ?_)
  ·have hj1 : j < ps.length := by omega
   have hstep := map2_take hj1
   have hmpos := hpos j hj1
   obtain ⟨zr, zm⟩ := hz j
   have hl11 := hl.extT hE.tz x11
   refine hl11.ix rfl hj1 fun rs ms hr hm => ?_
   generalize hq : ps.getD j (0, 0) = q at *
   obtain ⟨r, mm⟩ := q
   simp only at hr hm hmpos zr zm
   intro w12 e12 w13 e13
   have e1113 := e12.trans e13
   have hE13 := hE11.ext e1113
   have hs := On.ext hs e1113
   have hu := On.ext hu e1113
   have hr := hr.ext e1113
   have hm := hm.ext e1113
   have x13 := x11.trans e1113.any
   refine t2 hE13.tz (modn_Inverse hE13 hu.nt hm (by omega) (by omega) h0 h1) ?_
   rintro s1 er w14 x14 ⟨-, hI4, hI0, hE14⟩
   have hT := hE13.tz
   have hs := hs.extT hT x14
   have hu := hu.extT hT x14
   have hr := hr.extT hT x14
   have hm := hm.extT hT x14
   have x14' := x13.trans x14
   by_cases hg1 : Nat.gcd P mm = 1
   ·obtain ⟨her, inv, hinv, hi⟩ := hI0 hmpos hg1
    subst her
    refine cnd_f (by simp) ?_
    have ed : Ext none_ w14 w14.drew := (Ext.refl _ _).drew
    have hE := hE14.drew
    have hs := On.ext hs ed
    have hu := On.ext hu ed
    have hr := hr.ext ed
    have hm := hm.ext ed
    have hi := On.ext hi ed
    have zi : sz inv ≤ 64 := Nat.le_trans (sz_mono (Nat.le_of_lt hinv.1)) zm
    have x := x14'.trans ed.any
    clear hE14 hI4 hI0 x14' x14 x13
    refine hE.down7 fun a1 q1 a2 q2 a3 q3 a4 q4 a5 q5 a6 q6 a7 q7 E7 H7 => ?_
    refine t3 hE.tz (div_DivMod E7 hr hm (by omega) (by omega) h0 h1) ?_
    rintro _ s3 _ w16 x16 ⟨-, h3, -, E7⟩
    rw [if_neg (by omega)] at h3
    refine hldC (H7.extT x16).tail ?_
    have hT := hE.tz
    have hE := (hE.re x16 E7).drew
    have ed : Ext none_ w16 w16.drew := (Ext.refl _ _).drew
    have hs := On.ext (hs.extT hT x16) ed
    have hu := On.ext (hu.extT hT x16) ed
    have hm := (hm.extT hT x16).ext ed
    have hi := On.ext (hi.extT hT x16) ed
    have h3 := On.ext h3 ed
    have x := (x.trans x16).trans ed.any
    clear H7 E7 hT hr
    refine hE.down7 fun a1 q1 a2 q2 a3 q3 a4 q4 a5 q5 a6 q6 a7 q7 E7 H7 => ?_
    refine t3 hE.tz (div_DivMod E7 hs.nt hm (by omega) (by omega) h0 h1) ?_
    rintro _ s5 _ w17 x17 ⟨-, h5, -, E7⟩
    rw [if_neg (by omega)] at h5
    refine hldC (H7.extT x17).tail ?_
    have hT := hE.tz
    have hE := hE.re x17 E7
    have hs := hs.extT hT x17
    have hu := hu.extT hT x17
    have hm := hm.extT hT x17
    have hi := hi.extT hT x17
    have h3 := h3.extT hT x17
    have x := x.trans x17
    clear H7 E7 hT
    have l3 := Nat.mod_lt r hmpos
    have l5 := Nat.mod_lt R hmpos
    have z3 : sz (r % mm) ≤ 64 := Nat.le_trans (sz_mono (Nat.le_of_lt l3)) zm
    have z5 : sz (R % mm) ≤ 64 := Nat.le_trans (sz_mono (Nat.le_of_lt l5)) zm
    refine c1 (limb_Cmp h3.nt h5.nt) ?_
    rintro _ w18 e18 rfl
    refine ⟨fun (r4 x8 x9 o2 o3 pp : Sl) w20 => o2 = s ∧ o3 = u ∧ pp = ms ∧ (∃ D : Nat, Nt w20 r4 D ∧ R % mm ≤ D ∧ (D = r % mm ∨ D = r % mm + mm) ∧ sz D ≤ 65) ∧ Ext none_ w18 w20, ?_, ?_⟩
    ·refine cnd_d (fun hlt => ?_) (fun hlt => ?_)
     ·refine c1 (limb_Add (On.ext h3 e18).nt (hm.ext e18) (by omega) (by omega)) fun s6 w19 e19 h6 => ?_
      have za := sz_add (r % mm) mm
      exact ⟨rfl, rfl, rfl, ⟨_, h6.nt, by omega, .inr rfl, by omega⟩, e19⟩
     ·have hge : R % mm ≤ r % mm := Nat.not_lt.1 fun h' => hlt (cmpN_neg.2 h')
      exact ⟨rfl, rfl, rfl, ⟨_, (On.ext h3 e18).nt, hge, .inl rfl, by omega⟩, Ext.refl _ _⟩
    rintro r4 x8 x9 o2 o3 pp w20 ⟨rfl, rfl, rfl, ⟨D, hD, hDR, hDe, zD⟩, e20⟩
    have e1720 := e18.trans e20
    refine c2 (limb_Sub hD ((On.ext h5 e1720).nt) (by omega)) ?_
    rintro s7 _ w21 e21 ⟨-, h7⟩
    have e1721 := (e1720.trans e21).drew
    have hE := (hE.ext (e1720.trans e21)).drew
    have hs := On.ext hs e1721
    have hu := On.ext hu e1721
    have hm := hm.ext e1721
    have hi := On.ext hi e1721
    have h7 := On.ext h7 (Ext.refl none_ w21).drew
    have x := x.trans e1721.any
    have zd : sz (D - R % mm) ≤ sz D := sz_sub
    obtain ⟨dif, hdif⟩ : ∃ dif, D - R % mm = dif := ⟨_, rfl⟩
    rw [hdif] at h7 zd
    have hde : dif + R % mm = r % mm ∨ dif + R % mm = r % mm + mm := by omega
    have heq := crt_dif (inv := inv) hmpos hde
    refine hE.down7 fun a1 q1 a2 q2 a3 q3 a4 q4 a5 q5 a6 q6 a7 q7 E7 H7 => hE.down10 fun b1 r1 b2 r2 b3 r3 b4 r4 b5 r5 b6 r6 b7 r7 b8 r8 b9 r9 b10 r10 E10 H10 => ?_
    refine t1 hE.tz (mul_Mul E10 h7.nt hi.nt (by omega) (by omega) h0 (by omega)) ?_
    rintro s8 w22 x22 ⟨h8, E10⟩
    refine hldC ((H10.extT x22).tail.app (H7.extT x22)) ?_
    have E7 := E7.re x22 E10
    have hT := hE.tz
    have hE := hE.re x22 E10
    have hs := hs.extT hT x22
    have hu := hu.extT hT x22
    have hm := hm.extT hT x22
    have x := x.trans x22
    have km := sz_mul dif inv
    have hT := hE.tz
    refine t3 hT (div_DivMod E7 h8.nt hm (by omega) (by omega) h0 h1) ?_
    rintro _ s10 _ w23 x23 ⟨-, h10, -, E7⟩
    rw [if_neg (by omega)] at h10
    refine hldC (((H10.extT x22).extT x23).tail.app ((H7.extT x22).extT x23).tail) ?_
    have ed : Ext none_ w23 w23.drew := (Ext.refl _ _).drew
    have hE := (hE.re x23 E7).drew
    have hs := On.ext (hs.extT hT x23) ed
    have hu := On.ext (hu.extT hT x23) ed
    have hm := (hm.extT hT x23).ext ed
    have h10 := On.ext h10 ed
    have x := (x.trans x23).trans ed.any
    clear H7 H10 E7 E10 hT h8 h7 hi
    have lt10 := Nat.mod_lt (dif * inv) hmpos
    obtain ⟨T, hTe⟩ : ∃ T, dif * inv % mm = T := ⟨_, rfl⟩
    rw [hTe] at h10 lt10 heq
    have zT : sz T ≤ 64 := Nat.le_trans (sz_mono (Nat.le_of_lt lt10)) zm
    refine hE.down10 fun b1 r1 b2 r2 b3 r3 b4 r4 b5 r5 b6 r6 b7 r7 b8 r8 b9 r9 b10 r10 E10 H10 => ?_
    have hT := hE.tz
    refine t1 hT (mul_Mul E10 hu.nt h10.nt (by omega) (by omega) h0 (by omega)) ?_
    rintro s11 w24 x24 ⟨h11, E10⟩
    refine hldC (H10.extT x24).tail ?_
    have hE := hE.re x24 E10
    have hs := hs.extT hT x24
    have hu := hu.extT hT x24
    have hm := hm.extT hT x24
    have kt := sz_mul P T
    refine c1 (limb_Add hs.nt h11.nt (by omega) (by omega)) fun s12 w25 e25 h12 => ?_
    refine hldC ((H10.extT x24).ext e25).tail ?_
    intro w26 e26
    have z24 : w.w.heap.size ≤ w24.w.heap.size := (y10.any.trans (x.trans x24)).size
    have e2426 := (e25.trans e26).drew
    have hE := (hE.ext (e25.trans e26)).drew
    have hu := On.ext hu e2426
    have hm := hm.ext e2426
    have h12 := On.ext h12 e26.drew
    have x := (x.trans x24).trans e2426.any
    clear H10 E10 hT hs h11
    refine hE.down10 fun b1 r1 b2 r2 b3 r3 b4 r4 b5 r5 b6 r6 b7 r7 b8 r8 b9 r9 b10 r10 E10 H10 => ?_
    have hT := hE.tz
    refine t1 hT (mul_Mul E10 hu.nt hm (by omega) (by omega) h0 (by omega)) ?_
    rintro s13 w27 x27 ⟨h13, E10⟩
    refine hldC (H10.extT x27).tail ?_
    have hE := hE.re x27 E10
    have h12 := On.extT h12 hT x27
    intro w28 e28
    have z26 : w.w.heap.size ≤ w26.w.heap.size := (y10.any.trans x).size
    have hcr' := hcr.step (m := mm) (r := r) (inv := inv) (t := T) (by rw [← hP]; exact hinv) lt10 heq
    rw [← hP, ← hstep] at hcr'
    have hco' : Cop ((ps.take (j + 1)).map (·.2)) := by
     rw [hstep, List.map_append]
     exact hco.snoc (by rw [← hP]; exact hg1)
    have hP' : P * mm = prodl ((ps.take (j + 1)).map (·.2)) := by
     rw [hstep, List.map_append, prodl_append, ← hP]
     simp [prodl_one]
    have kp := sz_mul P mm
    have zR' : sz (R + P * T) ≤ 64 * (j + 1) + 1 := by
     have := hcr'.lt
     rw [← hP'] at this
     have := sz_mono (Nat.le_of_lt this)
     omega
    refine bnd_eq (y := ((j + 1 : Nat) : Int)) (by show wi ((j : Int) + 1) = _; rw [wi_id (by omega) (by omega)]; omega) ⟨ps.length - (j + 1), by omega, j + 1, R + P * T, P * mm, rfl, rfl, by omega, hco', hcr', hP', zR', by omega, (On.ext h12 e28).less z24, (On.ext h13 e28).less z26, (x.trans x27).trans e28.any, hE.ext e28⟩
   ·obtain ⟨-, her⟩ := hI4 hmpos hg1
    subst her
    refine cnd_t (by simp) ?_
    intro w15 e15
    have hnc : ¬ Cop (ps.map (·.2)) := fun hc => by
     have := cop_take hc (j + 1)
     rw [hstep, List.map_append] at this
     have := this.of_snoc.2
     rw [← hP] at this
     exact hg1 this
    exact ⟨(Sl.nil, Sl.nil, _, ()), rfl, (y10.any.trans x14').trans e15.any, fun h => absurd h hno, fun _ _ => ⟨rfl, rfl, rfl⟩, fun _ h => absurd h hnc, (hE14.ext e15).at⟩
  ·have : j = ps.length := by omega
   subst this
   rw [List.take_length] at hco hcr hP
   subst hP
   exact ⟨⟨hco, R, hcr, hs, hu⟩, x11, hE11⟩
 rintro _ _ s u w29 ⟨⟨hco, R, hcr, hs, hu⟩, x29, hE29⟩
 intro w30 e30
 exact ⟨(_, _, _, ()), rfl, (y10.any.trans x29).trans e30.any, fun h => absurd h hno, fun _ h => absurd hco h, fun _ _ => ⟨rfl, R, hcr, (On.ext hs e30).at, (On.ext hu e30).at⟩, (hE29.ext e30).at⟩
end
end Go.Proofs.YtjhfalgmgagdhaaGreatDoor.Zg
end

section
namespace Go.Proofs.YtjhfalgmgagdhaaGreatDoor.Zg
open Go.RowKit
theorem ref_Mod' {w : TW} {s t : Sl} {x y : Nat} (hs : Dr w s x) (ht : Dr w t y) (hy : 0 < y) (hx : dz x ≤ 134217728) (hyd : dz y ≤ 134217728) : Ct Pg F.zigguratref02_Mod [s.v, t.v] w none_ [.one .slice] fun (r : Sl) w' => Dr w' r (x % y) :=
 Calls.mono (ref02_Mod hs ht hy hx hyd) fun _ _ ⟨x, T', h1, h2, h3, h4⟩ => ⟨x, T', h1, h2, h3, h4.1⟩
abbrev L2t : Type := List Nat × List Nat
def vp (q : L2t) : N2t := (vl W64 q.1, vl W64 q.2)
structure Rq2 (w : TW) (s : Sl) (ls : List L2t) : Prop where
 ex : ∃ ts : List S2t, Rdv w 2 s (ts.flatMap p2v) ∧ ts.length = ls.length ∧ ∀ i, ∀ h : i < ts.length, Rd w ts[i].1 (ls.getD i ([], [])).1 ∧ Rd w ts[i].2 (ls.getD i ([], [])).2
theorem vp_getD (ls : List L2t) (i : Nat) : (ls.map vp).getD i (0, 0) = vp (ls.getD i ([], [])) := by
 simp only [List.getD_eq_getElem?_getD, List.getElem?_map]
 cases ls[i]? <;> rfl
theorem Rq2.rp {w : TW} {s : Sl} {ls : List L2t} (h : Rq2 w s ls) : Rp w s (ls.map vp) := by
 obtain ⟨ts, h1, h2, h3⟩ := h.ex
 exact ⟨ts, h1, by simpa using h2, fun i hi => by rw [vp_getD]; exact ⟨(h3 i hi).1.nt, (h3 i hi).2.nt⟩⟩
theorem Rq2.ext {w w' : TW} {s : Sl} {ls : List L2t} (h : Rq2 w s ls) (e : Ext none_ w w') : Rq2 w' s ls := by
 obtain ⟨ts, h1, h2, h3⟩ := h.ex
 exact ⟨ts, h1.extN e, h2, fun i hi => ⟨(h3 i hi).1.ext e, (h3 i hi).2.ext e⟩⟩
theorem Rq2.extT {w w' : TW} {b : Nat} {s : Sl} {ls : List L2t} (h : Rq2 w s ls) (hT : Tz w b) (e : Xt1 b w w') : Rq2 w' s ls := by
 obtain ⟨ts, h1, h2, h3⟩ := h.ex
 exact ⟨ts, h1.extT (p2v_ne ts) hT e, h2, fun i hi => ⟨(h3 i hi).1.extT hT e, (h3 i hi).2.extT hT e⟩⟩
theorem Rq2.len {w : TW} {s : Sl} {ls : List L2t} (h : Rq2 w s ls) : s.n = ls.length := by
 have := h.rp.len
 simpa using this
theorem Rq2.at1 {w w' : TW} {s : Sl} {ls : List L2t} (h : Rq2 w s ls) (e : Ext none_ w w') {i : Int} {j : Nat} (hi : i = j) (hj : j < ls.length) {K : Addr → Sl → Prop} (hK : ∀ a u, (∀ v, Ext none_ w' v → v.w.cell? a = some u.v) → Rd w u (ls.getD j ([], [])).1 → K a u) :
  ixa s i 2 fun a => ldc (.slice) w' a fun (v : Sl) => K a v := by
 obtain ⟨ts, h1, h2, h3⟩ := h.ex
 have hj' : j < ts.length := by omega
 subst hi
 have hn := h.len
 obtain ⟨b, o, hp, hV, hc⟩ := h1.2.2.2 (fun e => by have := congrArg List.length e; rw [fm_len p2v_len, List.length_nil] at this; omega)
 have hg := fm_get p2v_len hj' (show 0 < 2 by decide)
 have key : ∀ v, Ext none_ w v → v.w.cell? ⟨b, o + 2 * j, none⟩ = some ts[j].1.v := fun v ev => by
  obtain ⟨b', o', hp', _, hc'⟩ := (h1.extN ev).2.2.2 (fun e => by have := congrArg List.length e; rw [fm_len p2v_len, List.length_nil] at this; omega)
  rw [hp] at hp'
  injection hp' with hp'
  injection hp' with h4 h5
  subst h4 h5
  exact hc' _ _ hg
 refine ⟨⟨b, o, none⟩, hp, by omega, by omega, ?_⟩
 rw [addp, show o + (j : Int).toNat * 2 = o + 2 * j by omega]
 exact ⟨_, key _ e, hK _ _ (fun v ev => key v (e.trans ev)) (h3 j hj').1⟩
theorem Rq2.at2 {w w' : TW} {s : Sl} {ls : List L2t} (h : Rq2 w s ls) (e : Ext none_ w w') {i : Int} {j : Nat} (hi : i = j) (hj : j < ls.length) {K : Sl → Prop} (hK : ∀ u, Rd w u (ls.getD j ([], [])).2 → K u) :
  ixa s i 2 fun a => ldc (.slice) w' (a.add 1) fun (v : Sl) => K v := by
 obtain ⟨ts, h1, h2, h3⟩ := (h.ext e).ex
 obtain ⟨ts', g1, g2, g3⟩ := h.ex
 have hj' : j < ts'.length := by omega
 exact (g1.extN e).atk p2v_len (by decide) hi hj' fun a ha => ⟨_, ha 1 (by decide), hK _ (g3 j hj').2⟩
structure Few2 (ls : List L2t) : Prop where
 n : ls.length ≤ 16
 k : ∀ i, (ls.getD i ([], [])).1.length ≤ 8 ∧ (ls.getD i ([], [])).2.length ≤ 8
end Go.Proofs.YtjhfalgmgagdhaaGreatDoor.Zg
end
