/- A part of the proofs of this seat's laws: words, lemmas or contracts of its functions. -/
import Derived.Test.YticehedkalheiaaGreatDoorGHE
import Derived.Test.YticehedkalheiaaGreatDoorGIA
import Derived.Test.YticehedkalheiaaGreatDoorGP4
set_option linter.unusedVariables false
set_option linter.unusedSimpArgs false
set_option linter.unnecessarySimpa false
section
namespace Go.Proofs.YticehedkalheiaaGreatDoor.Zg
open Go.RowKit
theorem len14 {bs : List Nat} (h : bs.length = 14) : ∃ mo hg g po nu ra ro dv rc c m d k e, bs = [mo, hg, g, po, nu, ra, ro, dv, rc, c, m, d, k, e] := by
 match bs, h with
 | [mo, hg, g, po, nu, ra, ro, dv, rc, c, m, d, k, e], _ => exact ⟨mo, hg, g, po, nu, ra, ro, dv, rc, c, m, d, k, e, rfl⟩
theorem modn_mk {w : TW} {t : HL I11} (hG : Gl w) {K : Option Addr → TW → Prop} (hK : ∀ p w' mo hg g po nu ra ro dv rc c m d k e b tab, Ext none_ w w' → Eg w' p [mo, hg, g, po, nu, ra, ro, dv, rc, c, m, d, k, e] b 0 tab → w.w.heap.size ≤ b → p.isNone = false → K p w') : cl Pg F.modn_New [.agg (encs I11 t).toArray] w [.one .ptr] K := by
 refine modn_NewN.mk hG (fun p w' bs b tab e hl hE hb hp => ?_) (by decide)
 obtain ⟨mo, hg, g, po, nu, ra, ro, dv, rc, c, m, d, k, e', rfl⟩ := len14 hl
 exact hK p w' _ _ _ _ _ _ _ _ _ _ _ _ _ _ b tab e hE hb hp
theorem law22_from {w : TW} {s : Sl} {l : List Nat} (hs : Rd w s l) (hn : l.length ≤ 1048576) : Ct Pg F.zigguratlaw22_from [s.v] w none_ [.one .slice] fun (s' : Sl) w' => Dn w' w.w.heap.size s' (vl W64 l) := by
 refine Ct.zigguratlaw22_from ?_
 unfold Sh.zigguratlaw22_from
 have := hs.len
 refine c1 (ref_From hs.here.nt (by omega)) ?_
 intro s' w' e h
 exact rt1 (c := .slice) _ e h.at
theorem law22_wakes {w : TW} (hG : Gl w) : Ct Pg F.zigguratlaw22_wakes [] w none_ [.one .bool] fun (r : Bool) _ => r = true := by
 refine Ct.zigguratlaw22_wakes ?_
 unfold Sh.zigguratlaw22_wakes
 refine modn_mk (t := ((0 : Int), (0 : Int), (0 : Int), (0 : Int), (0 : Int), (0 : Int), (0 : Int), (0 : Int), (0 : Int), (0 : Int), (0 : Int), ())) hG.here fun p w1 mo hg g po nu ra ro dv rc c m d k e t tab e1 hE ht hp => ?_
 refine cnd_f (by rw [hp]) ?_
 have l1 : ∀ x, x < W64 → sz x ≤ 64 := fun x hx => Nat.le_trans (sz_word hx) (by decide)
 refine nw_u64 (x := 2) rfl (by decide) fun b w2 h2 e2 => nw_u64 (x := 3) rfl (by decide) fun b1 w3 h3 e3 => nw_u64 (x := 3) rfl (by decide) fun b2 w4 h4 e4 => nw_u64 (x := 5) rfl (by decide) fun b3 w5 h5 e5 => ?_
 refine nw_rw fun b4 w6 h6 _ e6 => ?_
 have e16 := (((e2.trans e3).trans e4).trans e5).trans e6
 have hE6 := hE.ext e16
 have hl : Rp w6 ⟨some ⟨b4, 0, none⟩, 2, 2⟩ [(2, 3), (3, 5)] := by
  refine ⟨[(⟨some ⟨b, 0, none⟩, 1, 1⟩, ⟨some ⟨b1, 0, none⟩, 1, 1⟩), (⟨some ⟨b2, 0, none⟩, 1, 1⟩, ⟨some ⟨b3, 0, none⟩, 1, 1⟩)], ⟨rfl, Nat.le_refl _, (by decide : 2 ≤ maxLen), fun _ => ⟨b4, 0, rfl, h6.V, fun j v hj => ?_⟩⟩, rfl, fun i hi => ?_⟩
  ·rw [Nat.zero_add, h6.cell]; exact hj
  ·match i, hi with
   | 0, _ => exact ⟨(h2.ext (((e3.trans e4).trans e5).trans e6)).rd.nt, (h3.ext ((e4.trans e5).trans e6)).rd.nt⟩
   | 1, _ => exact ⟨(h4.ext (e5.trans e6)).rd.nt, (h5.ext e6).rd.nt⟩
 refine tM hE6.tz (modn_Crt (l := ⟨some ⟨b4, 0, none⟩, 2, 2⟩) (ps := [(2, 3), (3, 5)]) hE6 hl (fun i => ?_) (by decide) (by decide) (by decide)) ?_
 ·match i with
  | 0 => exact ⟨l1 2 (by decide), l1 3 (by decide)⟩
  | 1 => exact ⟨l1 3 (by decide), l1 5 (by decide)⟩
  | i + 2 => exact ⟨l1 0 (by decide), l1 0 (by decide)⟩
 rintro r r1 r2 w7 x7 ⟨-, -, hC, hE7⟩
 have hpos : ∀ q ∈ ([(2, 3), (3, 5)] : List N2t), 0 < q.2 := by decide
 have hcop : Cop (([(2, 3), (3, 5)] : List N2t).map (·.2)) := by simp [Cop]
 obtain ⟨rfl, R, hcr, hR, hM⟩ := hC hpos hcop
 have hR8 : R = 8 := hcr.uniq (ps' := [(2, 3), (3, 5)]) ⟨by decide, by decide⟩ hcop (fun _ => Iff.rfl) rfl
 subst hR8
 have hM15 : prodl (([(2, 3), (3, 5)] : List N2t).map (·.2)) = 15 := rfl
 rw [hM15] at hM
 intro w8 e8 w9 e9
 have e79 := e8.trans e9
 have hE9 := hE7.ext e79
 refine tM hE9.tz (modn_Signed hE9 (On.ext hR e79).nt (On.ext hM e79).nt (Nat.le_trans (l1 8 (by decide)) (by decide)) (Nat.le_trans (l1 15 (by decide)) (by decide)) (by decide) (by decide)) ?_
 rintro r3 r4 r5 w10 x10 ⟨-, hS, hE10⟩
 obtain ⟨rfl, hS⟩ := hS (by decide)
 rw [show sgd 8 15 = -7 by decide] at hS
 have hR := (On.ext hR e79).extT hE9.tz x10
 have hM := (On.ext hM e79).extT hE9.tz x10
 intro w11 e11 w12 e12
 have e1012 := (e11.trans e12).drew
 refine j1 (fun (b : Bool) w' => b = true ∧ Ext none_ w10 w') ?_ ?_
 ·refine cnd_t rfl (cnd_t rfl ?_)
  refine nw_u64 (x := 8) rfl (by decide) fun b5 w13 h13 e13 => ?_
  refine same_w (x := 8) (On.ext hR (e1012.trans e13)) (by decide) (by decide) h13 fun w14 e14 => cnd_t rfl ?_
  have e1014 := (e1012.trans e13).trans e14
  refine nw_u64 (x := 15) rfl (by decide) fun b6 w15 h15 e15 => ?_
  refine same_w (x := 15) (On.ext hM (e1014.trans e15)) (by decide) (by decide) h15 fun w16 e16' => cnd_t rfl ?_
  have e1016 := (e1014.trans e15).trans e16'
  refine cl0 (num_Of (n := -7) (by decide) (by decide)) ?_
  rintro r6 r7 w17 e17 h17
  exact same_i (hS.ext (e1016.trans e17)) h17 fun w18 e18 => ⟨rfl, (e1016.trans e17).trans e18⟩
 rintro b w19 ⟨rfl, e19⟩
 exact rt1 (c := .bool) true (e1.own ((((e16.any.trans x7).trans e79.any).trans x10).trans e19.any) fun c hc => by subst hc; exact ht) rfl
theorem wk22 {w : TW} (hG : Gl w) {K : Bool → TW → Prop} (hK : ∀ w', Ext none_ w w' → K true w') : cl Pg F.zigguratlaw22_wakes [] w [.one .bool] K := by
 refine c1 (law22_wakes hG) ?_
 rintro r w' e rfl
 exact hK w' e
theorem law22_ModnInverses {w : TW} {t : HL I11} {a b : Sl} (hG : Gl w) (ha : Arg w a) (hb : Arg w b) : Ct Pg F.zigguratlaw22_ModnInverses [.agg (encs I11 t).toArray, a.v, b.v] w none_ [.one .bool] fun (r : Bool) _ => r = true := by
 obtain ⟨la, ha⟩ := ha
 obtain ⟨lb, hb⟩ := hb
 refine Ct.zigguratlaw22_ModnInverses ?_
 unfold Sh.zigguratlaw22_ModnInverses
 intro w1 e1
 refine cutc (n := 8) (ha.here.ext e1) rfl fun s w2 e2 hs _ => cutc (n := 6) ((hb.here.ext e1).ext e2) rfl fun s1 w3 e3 ht _ => ?_
 have hs := hs.ext e3
 have nla : (la.take 8).length ≤ 8 := by simp; omega
 have nlb : (lb.take 6).length ≤ 6 := by simp; omega
 generalize la.take 8 = l1 at *
 generalize lb.take 6 = l2 at *
 have kx := sz_vl hs.sm
 have ky := sz_vl ht.sm
 have dx := dz_of_sz kx
 have dy := dz_of_sz ky
 have e13 := (e1.trans e2).trans e3
 refine modn_mk (t := t) (hG.here.ext e13) fun p w4 mo hg g po nu ra ro dv rc c m d k' e t tab e4 hE htt hp => ?_
 have z : w.w.heap.size ≤ t := Nat.le_trans e13.size htt
 refine cnd_f (by rw [hp]) ?_
 have hs := hs.ext e4
 have ht := ht.ext e4
 have hT := hE.tz
 refine t2 hT (modn_Inverse hE hs.nt ht.nt (by omega) (by omega) (by decide) (by decide)) ?_
 rintro s2 r w5 x5 ⟨hI2, hI4, hI0, hE5⟩
 have hs := hs.extT hT x5
 have ht := ht.extT hT x5
 have fin : ∀ {v : TW}, Ext none_ w5 v → Rt none_ [.one .bool] (fun (r : Bool) _ => r = true) w (.bool true) v := fun ev => rt1 (c := .bool) true ((e13.trans e4).own (x5.trans ev.any) fun c hc => by subst hc; exact z) rfl
 refine c1 (api_Zero ht.nt) ?_
 rintro _ w6 e6 rfl
 have hE6 := hE5.ext e6
 refine cnd_d (fun hM => ?_) (fun hM => ?_)
 ·obtain ⟨rfl, rfl⟩ := hI2 hM
  refine j1 (fun (b : Bool) w' => b = true ∧ Ext none_ w5 w') ?_ ?_
  ·exact cnd_t rfl (cnd_t rfl (wk22 hE6.gl fun w7 e7 => ⟨rfl, e6.trans e7⟩))
  rintro b w8 ⟨rfl, e8⟩
  exact fin e8
 have hM : 0 < vl W64 l2 := Nat.pos_of_ne_zero hM
 refine c1 (law22_from (hs.ext e6) (by omega)) fun s3 w9 e9 h3 => ?_
 refine c1 (law22_from ((ht.ext e6).ext e9) (by omega)) fun s4 w10 e10 h4 => ?_
 refine c2 (r17_Inverse (h3.dr.ext e10) h4.dr hM (by omega) (by omega)) ?_
 rintro s5 ok2 w11 e11 ⟨hJ1, hJ2⟩
 have e511 := ((e6.trans e9).trans e10).trans e11
 have hE11 := hE5.ext e511
 by_cases hgc : Nat.gcd (vl W64 l1) (vl W64 l2) = 1
 ·obtain ⟨rfl, r1, hiv, hs2⟩ := hI0 hM hgc
  obtain ⟨rfl, r2, hiv2, hs5⟩ := hJ2 hgc
  obtain rfl := hiv.uniq hiv2
  have dr : dz r1 ≤ 12 := Nat.le_trans (dz_mono (Nat.le_of_lt hiv.1)) (by omega)
  refine cnd_f rfl ?_
  refine j1 (fun (b : Bool) w' => b = true ∧ Ext none_ w5 w') ?_ ?_
  ·refine cnd_t rfl ?_
   refine sm hs5 (On.ext hs2 e511) (by omega) rfl fun w14 e14 => cnd_t rfl ?_
   exact wk22 (hE11.gl.ext e14) fun w15 e15 => ⟨rfl, (e511.trans e14).trans e15⟩
  rintro b w16 ⟨rfl, e16⟩
  exact fin e16
 ·obtain ⟨rfl, rfl⟩ := hI4 hM hgc
  obtain ⟨rfl, -⟩ := hJ1 hgc
  refine cnd_t rfl ?_
  refine j1 (fun (b : Bool) w' => b = true ∧ Ext none_ w5 w') ?_ ?_
  ·exact cnd_t rfl (cnd_t rfl (wk22 hE11.gl fun w12 e12 => ⟨rfl, e511.trans e12⟩))
  rintro b w13 ⟨rfl, e13'⟩
  exact fin e13'
end Go.Proofs.YticehedkalheiaaGreatDoor.Zg
end

section
namespace Go.Proofs.YticehedkalheiaaGreatDoor.Zg
open Go.RowKit
theorem keep_SameD {w : TW} {s t : Sl} {l m : List Nat} (hs : Rd w s l) (ht : Rd w t m) : Ct Pg F.zigguratkeep_Same [s.v, t.v] w none_ [.one .bool] fun (r : Bool) _ => r = decide (l = m) := by
 refine Ct.zigguratkeep_Same ?_
 unfold Sh.zigguratkeep_Same
 have h1 := hs.len
 have h2 := ht.len
 have hc := hs.le
 refine cnd_i (fun h => ?_) (fun h => ?_)
 ·have hne : l.length ≠ m.length := by
   simp only [bne_iff_ne, ne_eq] at h
   omega
  exact rt1 (c := .bool) false (Ext.refl _ _) (by rw [eq_comm, decide_eq_false_iff_not]; exact fun e => hne (by rw [e]))
 have hlen : l.length = m.length := by
  simp only [bne_eq_false_iff_eq] at h
  omega
 refine j0 (fun w' => l = m ∧ Ext none_ w.here w') ?_ fun w' e => rt1 (c := .bool) _ e.2 (by rw [eq_comm, decide_eq_true_iff]; exact e.1)
 refine lp1 (fun M (i : Int) w' => ∃ j : Nat, i = j ∧ M = l.length - j ∧ j ≤ l.length ∧ l.take j = m.take j ∧ Ext none_ w.here w') l.length ⟨0, rfl, by omega, by omega, rfl, Ext.refl _ _⟩ ?_
 rintro M i w' ⟨j, rfl, rfl, hj, htk, e⟩
 refine cnd_d (fun h => ?_) (fun h => ?_)
 ·have hj1 : j < l.length := by omega
  refine (hs.here.ext e).drew.ix rfl hj1 ((ht.here.ext e).drew.ix rfl (by omega) (cnd_i (fun h => ?_) (fun h => ?_)))
  ·simp only [bne_iff_ne, ne_eq] at h
   refine rt1 (c := .bool) false e.drew ?_
   rw [eq_comm, decide_eq_false_iff_not]
   rintro rfl
   exact h rfl
  ·simp only [bne_eq_false_iff_eq] at h
   refine bnd_wi (by omega) (by omega) ⟨l.length - (j + 1), by omega, j + 1, by omega, rfl, by omega, ?_, e.drew⟩
   have h' : l.getD j 0 = m.getD j 0 := by exact_mod_cast h
   rw [List.take_succ_eq_append_getElem hj1, List.take_succ_eq_append_getElem (show j < m.length by omega), htk]
   congr 2
   simpa [List.getD_eq_getElem?_getD, hj1, show j < m.length by omega] using h'
 ·have : j = l.length := by omega
  subst this
  rw [List.take_length, List.take_of_length_le (by omega)] at htk
  exact ⟨htk, e⟩
theorem differ {w : TW} {s : Sl} {B C b x y : Nat} (hs : On w B s x) (hb : Ow w C ⟨some ⟨b, 0, none⟩, 1, 1⟩ [y]) (hne : x ≠ y) {K : Bool → TW → Prop} (hK : ∀ w', Ext none_ w w' → K false w') : cl Pg F.zigguratkeep_Same [s.v, .slice (some ⟨b, 0, none⟩) 1 1] w [.one .bool] K := by
 refine c1 (keep_SameD (s := s) (t := ⟨some ⟨b, 0, none⟩, 1, 1⟩) hs.rd hb.rd) ?_
 rintro r w' e rfl
 have : decide (dg W64 x = [y]) = false := by
  rw [decide_eq_false_iff_not]
  intro h
  have := congrArg (vl W64) h
  rw [vl_dg W2, vl_one] at this
  exact hne this
 rw [this]
 exact hK w' e
theorem law22_ModnBack {w : TW} {t : HL I11} {a b : Sl} (hG : Gl w) (ha : Arg w a) (hb : Arg w b) : Ct Pg F.zigguratlaw22_ModnBack [.agg (encs I11 t).toArray, a.v, b.v] w none_ [.one .bool] fun (r : Bool) _ => r = true := by
 obtain ⟨la, ha⟩ := ha
 obtain ⟨lb, hb⟩ := hb
 refine Ct.zigguratlaw22_ModnBack ?_
 unfold Sh.zigguratlaw22_ModnBack
 intro w1 e1
 refine cutc (n := 24) (ha.here.ext e1) rfl fun s w2 e2 hs _ => cutc (n := 24) ((hb.here.ext e1).ext e2) rfl fun s1 w3 e3 ht _ => ?_
 have hs := hs.ext e3
 have nla : (la.take 24).length ≤ 24 := by simp; omega
 have nlb : (lb.take 24).length ≤ 24 := by simp; omega
 generalize la.take 24 = l1 at *
 generalize lb.take 24 = l2 at *
 have kx := sz_vl hs.sm
 have ky := sz_vl ht.sm
 have dx := dz_of_sz kx
 have dy := dz_of_sz ky
 have e13 := (e1.trans e2).trans e3
 refine modn_mk (t := t) (hG.here.ext e13) fun p w4 mo hg g po nu ra ro dv rc c m d k' e t tab e4 hE htt hp => ?_
 have z : w.w.heap.size ≤ t := Nat.le_trans e13.size htt
 refine cnd_f (by rw [hp]) ?_
 have hs := hs.ext e4
 have ht := ht.ext e4
 have hT := hE.tz
 refine t2 hT (modn_Inverse hE hs.nt ht.nt (by omega) (by omega) (by decide) (by decide)) ?_
 rintro s2 r w5 x5 ⟨hI2, hI4, hI0, hE5⟩
 have hs := hs.extT hT x5
 have ht := ht.extT hT x5
 have fin : ∀ {v : TW}, Xt1 t w5 v → Rt none_ [.one .bool] (fun (r : Bool) _ => r = true) w (.bool true) v := fun ev => rt1 (c := .bool) true ((e13.trans e4).own (x5.trans ev) fun c hc => by subst hc; exact z) rfl
 rcases Nat.eq_zero_or_pos (vl W64 l2) with hM | hM
 ·obtain ⟨rfl, rfl⟩ := hI2 hM
  refine cnd_t (by decide) ?_
  refine j1 (fun (b : Bool) w' => b = true ∧ Xt1 t w5 w') ?_ ?_
  ·refine c1 (api_Zero ht.nt) ?_
   rintro _ w6 e6 rfl
   refine cnd_t (by simp [hM]) (cnd_t rfl ?_)
   exact wk22 (hE5.gl.ext e6) fun w7 e7 => ⟨rfl, (e6.trans e7).any⟩
  rintro b w13 ⟨rfl, x13⟩
  exact fin x13
 by_cases hgc : Nat.gcd (vl W64 l1) (vl W64 l2) = 1
 ·obtain ⟨rfl, r1, hiv, hs2⟩ := hI0 hM hgc
  have zr : sz r1 ≤ 24 := Nat.le_trans (sz_mono (Nat.le_of_lt hiv.1)) (by omega)
  have dr := dz_of_sz zr
  refine cnd_f (by decide) ?_
  refine c1 (ref_Small (y := 1) (by decide)) fun s4 w14 e14 h4 => ?_
  refine c1 (law22_from (ht.ext e14) (by omega)) fun s5 w15 e15 h5 => ?_
  have d1 : dz 1 ≤ 1 := dz_pow (by decide)
  refine c1 (ref_Mod' (h4.dr.ext e15) h5.dr hM (by omega) (by omega)) fun s6 w16 e16 h6 => ?_
  have e516 := (e14.trans e15).trans e16
  have r2 := hs2.rd
  have nr2 := hs2.rd.len
  have hv := vl_dg W2 r1
  refine j1 (fun (b : Bool) w' => b = true ∧ Xt1 t w5 w') ?_ ?_
  ·refine c1 (law22_from (r2.ext e516) (by rw [dg_len]; omega)) fun s7 w17 e17 h7 => ?_
   refine c1 (law22_from ((ht.ext e516).ext e17) (by omega)) fun s8 w18 e18 h8 => ?_
   rw [hv] at h7
   refine c1 (ref_Cmp (h7.dr.ext e18) h8.dr) ?_
   rintro _ w19 e19 rfl
   have e519 := ((e516.trans e17).trans e18).trans e19
   refine cnd_t (by rw [decide_eq_true_iff]; exact cmpN_neg.2 hiv.1) ?_
   refine c1 (law22_from (hs.ext e519) (by omega)) fun s9 w20 e20 h9 => ?_
   refine c1 (law22_from ((r2.ext e519).ext e20) (by rw [dg_len]; omega)) fun s10 w21 e21 h10 => ?_
   rw [hv] at h10
   refine c1 (ref_Mul (h9.dr.ext e21) h10.dr (by omega) (by omega)) fun s11 w22 e22 h11 => ?_
   have km := dz_mul (vl W64 l1) r1
   have e522 := ((e519.trans e20).trans e21).trans e22
   refine c1 (law22_from (ht.ext e522) (by omega)) fun s12 w23 e23 h12 => ?_
   refine c1 (ref_Mod' (h11.dr.ext e23) h12.dr hM (by omega) (by omega)) fun s13 w24 e24 h13 => ?_
   rw [hiv.2] at h13
   have e1624 := ((((e17.trans e18).trans e19).trans e20).trans (e21.trans e22)).trans (e23.trans e24)
   refine c1 (ref_Cmp h13 (h6.ext e1624)) ?_
   rintro _ w25 e25 rfl
   refine cnd_t (by rw [beq_iff_eq]; exact cmpN_eq.2 rfl) ?_
   have e525 := (e516.trans e1624).trans e25
   exact wk22 (hE5.gl.ext e525) fun w26 e26 => ⟨rfl, (e525.trans e26).any⟩
  rintro b w27 ⟨rfl, x27⟩
  exact fin x27
 ·obtain ⟨rfl, rfl⟩ := hI4 hM hgc
  refine cnd_t (by decide) ?_
  refine j1 (fun (b : Bool) w' => b = true ∧ Xt1 t w5 w') ?_ ?_
  ·refine c1 (api_Zero ht.nt) ?_
   rintro _ w6 e6 rfl
   refine cnd_t (by rw [decide_eq_false (by omega)]; rfl) (cnd_f (by decide) ?_)
   refine (hE5.ext e6).down fun q1 E1 => E1.down fun q2 E2 => ?_
   refine nw2 (hs.ext e6).nt (ht.ext e6).nt fun b w8 h8 e8 => ?_
   have E2 := E2.ext e8
   refine t1 E2.tz (gcd_Gcd (l := ⟨some ⟨b, 0, none⟩, 2, 2⟩) E2 h8 (getD2 (by omega) (by omega)) (by simp) (by decide) (by decide)) ?_
   rintro s3 w9 x9 ⟨h9, hE9⟩
   have hge : gcdl [vl W64 l1, vl W64 l2] = Nat.gcd (vl W64 l1) (vl W64 l2) := by simp [gcdl]
   rw [hge] at h9
   refine nw_u64 (x := 1) rfl (by decide) fun b1 w10 h10 e10 => ?_
   refine differ (On.ext h9 e10) h10 hgc fun w11 e11 => cnd_t rfl ?_
   refine wk22 (hE9.gl.ext (e10.trans e11)) fun w12 e12 => ⟨rfl, ?_⟩
   exact ((e6.trans e8).any.trans x9).trans ((e10.trans e11).trans e12).any
  rintro b w13 ⟨rfl, x13⟩
  exact fin x13
theorem law22_ModnResidues {w : TW} {t : HL I11} {a b : Sl} {n : Bool} {z : Int} (hG : Gl w) (ha : Iz w a n z) (hb : Arg w b) : Ct Pg F.zigguratlaw22_ModnResidues [.agg (encs I11 t).toArray, .agg #[a.v, .bool n], b.v] w none_ [.one .bool] fun (r : Bool) _ => r = true := by
 obtain ⟨v, ⟨la, ha, rfl⟩, hz⟩ := ha
 obtain ⟨lb, hb⟩ := hb
 refine Ct.zigguratlaw22_ModnResidues ?_
 unfold Sh.zigguratlaw22_ModnResidues
 intro w1 e1 w2 e2
 have e12 := e1.trans e2
 refine cl0 (keep_CutInt (n := 16) (neg := n) (z := z) ⟨_, (ha.here.ext e12).nt, hz⟩) ?_
 rintro r r1 w3 e3 ⟨rfl, rfl⟩
 have hs := ((ha.take 16).here.ext e12).ext e3
 refine cutc (n := 8) ((hb.here.ext e12).ext e3) rfl fun s1 w4 e4 ht _ => ?_
 have hs := hs.ext e4
 have nla : (la.take 16).length ≤ 16 := by simp; omega
 have nlb : (lb.take 8).length ≤ 8 := by simp; omega
 generalize a.cut 0 (min 16 a.n) 1 = s at *
 generalize la.take 16 = l1 at *
 generalize lb.take 8 = l2 at *
 have kx := sz_vl hs.sm
 have ky := sz_vl ht.sm
 have dx := dz_of_sz kx
 have dy := dz_of_sz ky
 intro w5 e5
 have hs := hs.ext e5
 have ht := ht.ext e5
 have e15 := ((e12.trans e3).trans e4).trans e5
 obtain ⟨Z, hZ⟩ : ∃ Z : Int, Z = if r1 then -((vl W64 l1 : Nat) : Int) else (vl W64 l1 : Nat) := ⟨_, rfl⟩
 have hZa : Z.natAbs = vl W64 l1 := by rw [hZ]; split <;> simp
 refine modn_mk (t := t) (hG.here.ext e15) fun p w6 mo hg g po nu ra ro dv rc c m d k' e t tab e6 hE htt hp => ?_
 have z : w.w.heap.size ≤ t := Nat.le_trans e15.size htt
 refine cnd_f (by rw [hp]) ?_
 have hs := hs.ext e6
 have ht := ht.ext e6
 have hT := hE.tz
 refine t2 hT (modn_Residue hE ⟨_, hs.nt, hZ⟩ ht.nt (by rw [hZa]; omega) (by omega) (by decide) (by decide)) ?_
 rintro s2 er w7 x7 ⟨h2, h3, hE7⟩
 have hs := hs.extT hT x7
 have ht := ht.extT hT x7
 have fin : ∀ {v : TW}, Ext none_ w7 v → Rt none_ [.one .bool] (fun (r : Bool) _ => r = true) w (.bool true) v := fun ev => rt1 (c := .bool) true ((e15.trans e6).own (x7.trans ev.any) fun c hc => by subst hc; exact z) rfl
 refine c1 (api_Zero ht.nt) ?_
 rintro _ w8 e8 rfl
 refine cnd_d (fun hM => ?_) (fun hM => ?_)
 ·obtain ⟨rfl, rfl⟩ := h2 hM
  refine j1 (fun (b : Bool) w' => b = true ∧ Ext none_ w7 w') ?_ ?_
  ·exact cnd_t rfl (cnd_t rfl (wk22 (hE7.gl.ext e8) fun w9 e9 => ⟨rfl, e8.trans e9⟩))
  rintro b w10 ⟨rfl, e10⟩
  exact fin e10
 have hM : 0 < vl W64 l2 := Nat.pos_of_ne_zero hM
 obtain ⟨hR, rfl⟩ := h3 hM
 have ls := hs.len
 refine j1 (fun (b : Bool) w' => b = true ∧ Ext none_ w7 w') ?_ ?_
 ·refine cnd_t rfl ?_
  refine cl0 (ref17_From (z := Z) ⟨_, (hs.ext e8).nt, hZ⟩ (by show s.n ≤ _; omega)) ?_
  rintro r3 r4 w11 e11 ⟨h11, -⟩
  have e811 := e8.trans e11
  refine c1 (law22_from (ht.ext e811) (by omega)) fun s3 w12 e12' h12 => ?_
  refine c1 (ref17_Residue (h11.ext e12') h12.dr hM (by rw [hZa]; omega) (by omega)) ?_
  rintro s4 w13 e13 ⟨h13, -⟩
  have e813 := (e811.trans e12').trans e13
  have mp : (0 : Int) < (vl W64 l2 : Nat) := by omega
  have t1 := Int.emod_lt_of_pos Z mp
  have t0 := Int.emod_nonneg Z (show ((vl W64 l2 : Nat) : Int) ≠ 0 by omega)
  have dr : dz (Z % ((vl W64 l2 : Nat) : Int)).toNat ≤ 16 := Nat.le_trans (dz_mono (show (Z % ((vl W64 l2 : Nat) : Int)).toNat ≤ vl W64 l2 by omega)) (by omega)
  refine sm h13 (On.ext hR e813) (by omega) rfl fun w14 e14 => cnd_t rfl ?_
  exact wk22 (hE7.gl.ext (e813.trans e14)) fun w15 e15 => ⟨rfl, (e813.trans e14).trans e15⟩
 rintro b w16 ⟨rfl, e16⟩
 exact fin e16
theorem law22_ModnSigneds {w : TW} {t : HL I11} {a b : Sl} (hG : Gl w) (ha : Arg w a) (hb : Arg w b) : Ct Pg F.zigguratlaw22_ModnSigneds [.agg (encs I11 t).toArray, a.v, b.v] w none_ [.one .bool] fun (r : Bool) _ => r = true := by
 obtain ⟨la, ha⟩ := ha
 obtain ⟨lb, hb⟩ := hb
 refine Ct.zigguratlaw22_ModnSigneds ?_
 unfold Sh.zigguratlaw22_ModnSigneds
 intro w1 e1
 refine cutc (n := 6) (ha.here.ext e1) rfl fun s w2 e2 hs _ => cutc (n := 5) ((hb.here.ext e1).ext e2) rfl fun s1 w3 e3 ht _ => ?_
 have hs := hs.ext e3
 have nla : (la.take 6).length ≤ 6 := by simp; omega
 have nlb : (lb.take 5).length ≤ 5 := by simp; omega
 generalize la.take 6 = l1 at *
 generalize lb.take 5 = l2 at *
 have kx := sz_vl hs.sm
 have ky := sz_vl ht.sm
 have dx := dz_of_sz kx
 have dy := dz_of_sz ky
 have e13 := (e1.trans e2).trans e3
 refine modn_mk (t := t) (hG.here.ext e13) fun p w4 mo hg g po nu ra ro dv rc c m d k' e t tab e4 hE htt hp => ?_
 have z : w.w.heap.size ≤ t := Nat.le_trans e13.size htt
 refine cnd_f (by rw [hp]) ?_
 have hs := hs.ext e4
 have ht := ht.ext e4
 have hT := hE.tz
 refine tM hT (modn_Signed hE hs.nt ht.nt (by omega) (by omega) (by decide) (by decide)) ?_
 rintro r1 r2 r3 w5 x5 ⟨h2, h3, hE5⟩
 have hs := hs.extT hT x5
 have ht := ht.extT hT x5
 have fin : ∀ {v : TW}, Ext none_ w5 v → Rt none_ [.one .bool] (fun (r : Bool) _ => r = true) w (.bool true) v := fun ev => rt1 (c := .bool) true ((e13.trans e4).own (x5.trans ev.any) fun c hc => by subst hc; exact z) rfl
 intro w6 e6 w7 e7
 have e57 := e6.trans e7
 refine c1 (api_Zero (ht.ext e57).nt) ?_
 rintro _ w8 e8 rfl
 have e58 := e57.trans e8
 refine cnd_d (fun hM => ?_) (fun hM => ?_)
 ·obtain ⟨rfl, rfl, rfl⟩ := h2 hM
  refine j1 (fun (b : Bool) w' => b = true ∧ Ext none_ w5 w') ?_ ?_
  ·exact cnd_t rfl (cnd_t rfl (cnd_t rfl (wk22 (hE5.gl.ext e58) fun w9 e9 => ⟨rfl, e58.trans e9⟩)))
  rintro b w10 ⟨rfl, e10⟩
  exact fin e10
 have hM : 0 < vl W64 l2 := Nat.pos_of_ne_zero hM
 obtain ⟨rfl, hS⟩ := h3 hM
 have e58d := e58.drew
 refine j1 (fun (b : Bool) w' => b = true ∧ Ext none_ w5 w') ?_ ?_
 ·refine cnd_t rfl ?_
  refine c1 (law22_from (hs.ext e58d) (by omega)) fun s2 w11 e11 h11 => ?_
  refine c1 (law22_from ((ht.ext e58d).ext e11) (by omega)) fun s3 w12 e12 h12 => ?_
  refine cl0 (ref17_Signed (h11.dr.ext e12) h12.dr hM (by omega) (by omega)) ?_
  rintro r4 r5 w13 e13' ⟨h13, -⟩
  have e513 := ((e58d.trans e11).trans e12).trans e13'
  have hlt := Nat.mod_lt (vl W64 l1) hM
  have dS : dz (sgd (vl W64 l1) (vl W64 l2)).natAbs ≤ 16 := by
   refine Nat.le_trans (dz_mono (show (sgd (vl W64 l1) (vl W64 l2)).natAbs ≤ vl W64 l2 by unfold sgd; split <;> omega)) (by omega)
  refine cl0 (ref17_To h13 (by omega)) ?_
  rintro r6 r7 w14 e14 h14
  refine same_i (hS.ext (e513.trans e14)) h14 fun w15 e15 => cnd_t rfl ?_
  have e515 := (e513.trans e14).trans e15
  exact wk22 (hE5.gl.ext e515) fun w16 e16 => ⟨rfl, e515.trans e16⟩
 rintro b w17 ⟨rfl, e17⟩
 exact fin e17
end Go.Proofs.YticehedkalheiaaGreatDoor.Zg
end
