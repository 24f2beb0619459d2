/- A part of the proofs of this seat's laws: words, lemmas or contracts of its functions. -/
import Derived.Test.YticehedkalheiaaGreatDoorGJB
import Derived.Test.YticehedkalheiaaGreatDoorGQ
set_option linter.unusedVariables false
set_option linter.unusedSimpArgs false
set_option linter.unnecessarySimpa false
section
namespace Go.Proofs.YticehedkalheiaaGreatDoor.Zg
open Go.RowKit
theorem few_sz {w : TW} {s : Sl} {ls : List (List Nat)} (h : Rl w s ls) (hf : Few ls) (i : Nat) : sz ((ls.map (vl W64)).getD i 0) ≤ 128 := by
  rw [mvl_getD]
  by_cases hi : i < ls.length
  · obtain ⟨ss, h1, h2, h3⟩ := h
    have h4 := h3 i _ (List.getElem?_eq_getElem (show i < ss.length by omega))
    exact Nat.le_trans (sz_vl h4.sm) (hf.k i)
  · rw [List.getD_eq_getElem?_getD, List.getElem?_eq_none (by omega)]
    simp [vl, sz, dg_zero]
theorem few_cuts (ls : List (List Nat)) {k n : Nat} (hk : k ≤ 16) (hn : n ≤ 128) : Few ((ls.take k).map (List.take n)) := by
  refine ⟨by simp; omega, fun i => ?_⟩
  simp only [List.getD_eq_getElem?_getD, List.getElem?_map]
  cases (ls.take k)[i]? with
  | none => simp
  | some l => simp; omega
theorem Lent.extT {w w' : TW} {B t : Nat} {s : Sl} {l : List Nat} (h : Lent w B s l) (hT : Tz w t) (e : Xt1 t w w') : Lent w' B s l := h.imp fun _ h => ⟨h.1, h.2.1.extT hT e, h.2.2⟩
theorem Dr.extT {w w' : TW} {t : Nat} {s : Sl} {x : Nat} (h : Dr w s x) (hT : Tz w t) (e : Xt1 t w w') : Dr w' s x := Rd.extT h hT e
theorem law20_GcdAlls {w : TW} {t : HL I11} {s : Sl} (hG : Gl w) (hl : ArgL w s) : Ct Pg F.zigguratlaw20_GcdAlls [.agg (encs I11 t).toArray, s.v] w none_ [.one .bool] fun (r : Bool) _ => r = true := by
  obtain ⟨ls, hl⟩ := hl
  refine Ct.zigguratlaw20_GcdAlls ?_
  unfold Sh.zigguratlaw20_GcdAlls
  intro w1 e1
  refine c1 (keep_Cuts (n := 4) (k := 6) (hl.here.ext e1) (by decide)) fun s1 w2 e2 h1 => ?_
  have hf := few_cuts ls (k := 6) (n := 4) (by decide) (by decide)
  generalize (ls.take 6).map (List.take 4) = ms at *
  refine gcd_mk (t := t) ((hG.here.ext e1).ext e2) fun p w3 g po nu ra ro dv rc c m d k e t tab e3 hE ht hp => ?_
  have e13 := (e1.trans e2).trans e3
  have z : w.w.heap.size ≤ t := Nat.le_trans (e1.trans e2).size ht
  have n16 := hf.n
  refine cnd_f (by rw [hp]) ?_
  refine c1 (keep_Nats (h1.ext e3) (by omega)) fun s2 w4 e4 h4 => ?_
  have hE4 := hE.ext e4
  refine j1 (fun (b : Bool) w' => b = true ∧ Ext none_ w.here w') ?_ ?_
  · refine c1 (r17_Gcd h4 hf) ?_
    rintro s3 w5 e5 ⟨h5, l5⟩
    have hE5 := hE4.ext e5
    have r5 := h4.ext e5
    refine t1 hE5.tz (gcd_Gcd hE5 r5.rs (fun i => Nat.le_trans (few_sz r5 hf i) (by decide)) (by simp; omega) (by decide) (by decide)) ?_
    rintro s4 w6 x6 ⟨h6, hE6⟩
    have r6 := r5.extT hE5.tz x6
    refine sm (h5.extT hE5.tz x6) h6 (by omega) rfl fun w7 e7 => cnd_t rfl ?_
    have r7 := r6.ext e7
    refine c1 (r17_Lcm r7 hf) ?_
    rintro s5 w8 e8 ⟨h8, l8⟩
    have hE8 := (hE6.ext e7).ext e8
    have r8 := r7.ext e8
    refine t1 hE8.tz (gcd_Lcm hE8 r8.rs (fun i _ => Nat.le_trans (few_sz r8 hf i) (by decide)) (by simpa using n16) (by decide) (by decide)) ?_
    rintro s6 w9 x9 ⟨h9, hE9⟩
    refine sm (h8.extT hE8.tz x9) h9 (by omega) rfl fun w10 e10 => cnd_t rfl ?_
    refine wk20 (hE9.ext e10).gl fun w11 e11 => ⟨rfl, ?_⟩
    have x : Xt1 t w3 w11 := (((e4.trans e5).any.trans x6).trans (e7.trans e8).any).trans (x9.trans (e10.trans e11).any)
    exact e13.own x fun c hc => by subst hc; exact z
  rintro b w' ⟨rfl, e⟩
  exact rt1 (c := .bool) _ e rfl
theorem law20_common {w : TW} {a b c : Sl} {la lb lc : List Nat} (ha : Rd w a la) (hb : Rd w b lb) (hc : Rd w c lc) (na : la.length ≤ 1024) (nb : lb.length ≤ 1024) (nc : lc.length ≤ 1024) : Ct Pg F.zigguratlaw20_common [a.v, b.v, c.v] w none_ [.one .slice, .one .slice] fun (s u : Sl) w' => On w' w.w.heap.size s (vl W64 la * vl W64 lc) ∧ On w' w.w.heap.size u (vl W64 lb * vl W64 lc) := by
  refine Ct.zigguratlaw20_common ?_
  unfold Sh.zigguratlaw20_common
  have ha := ha.here
  have hb := hb.here
  have hc := hc.here
  have ka := dz_of_sz (Nat.le_trans (sz_vl ha.sm) na)
  have kb := dz_of_sz (Nat.le_trans (sz_vl hb.sm) nb)
  have kc := dz_of_sz (Nat.le_trans (sz_vl hc.sm) nc)
  refine c1 (law20_from ha (by omega)) fun s w1 e1 h1 => ?_
  refine c1 (law20_from (hc.ext e1) (by omega)) fun s1 w2 e2 h2 => ?_
  refine c1 (ref_Mul (h1.ext e2).dr h2.dr (by omega) (by omega)) fun s2 w3 e3 h3 => ?_
  have k1 := dz_mul (vl W64 la) (vl W64 lc)
  refine c1 (ref_To h3.dr (by omega)) fun s3 w4 e4 h4 => ?_
  have e14 := ((e1.trans e2).trans e3).trans e4
  refine c1 (law20_from (hb.ext e14) (by omega)) fun s4 w5 e5 h5 => ?_
  refine c1 (law20_from ((hc.ext e14).ext e5) (by omega)) fun s5 w6 e6 h6 => ?_
  refine c1 (ref_Mul (h5.ext e6).dr h6.dr (by omega) (by omega)) fun s6 w7 e7 h7 => ?_
  have k2 := dz_mul (vl W64 lb) (vl W64 lc)
  refine c1 (ref_To h7.dr (by omega)) fun s7 w8 e8 h8 => ?_
  have e48 := ((e5.trans e6).trans e7).trans e8
  refine rt2 (c := .slice) (d := .slice) _ _ (e14.trans e48) ⟨((On.ext h4 e48).less ?_).at, (h8.less ?_).at⟩
  · exact ((e1.trans e2).trans e3).size
  · exact (e14.trans ((e5.trans e6).trans e7)).size
theorem law20_GcdTwos {w : TW} {t : HL I11} {a b c : Sl} (hG : Gl w) (ha : Arg w a) (hb : Arg w b) (hc : Arg w c) : Ct Pg F.zigguratlaw20_GcdTwos [.agg (encs I11 t).toArray, a.v, b.v, c.v] w none_ [.one .bool] fun (r : Bool) _ => r = true := by
  obtain ⟨la, ha⟩ := ha
  obtain ⟨lb, hb⟩ := hb
  obtain ⟨lc, hc⟩ := hc
  refine Ct.zigguratlaw20_GcdTwos ?_
  unfold Sh.zigguratlaw20_GcdTwos
  intro w1 e1
  refine cutc (n := 12) (ha.here.ext e1) rfl fun s w2 e2 hs _ => cutc (n := 12) ((hb.here.ext e1).ext e2) rfl fun s1 w3 e3 ht _ => cutc (n := 6) (((hc.here.ext e1).ext e2).ext e3) rfl fun s2 w4 e4 hu _ => ?_
  have hs := (hs.ext e3).ext e4
  have ht := ht.ext e4
  have kx := sz_vl hs.sm
  have ky := sz_vl ht.sm
  have kz := sz_vl hu.sm
  have nla : (la.take 12).length ≤ 12 := by simp; omega
  have nlb : (lb.take 12).length ≤ 12 := by simp; omega
  have nlc : (lc.take 6).length ≤ 6 := by simp; omega
  generalize la.take 12 = l1 at *
  generalize lb.take 12 = l2 at *
  generalize lc.take 6 = l3 at *
  refine c2 (law20_common hs ht hu (by omega) (by omega) (by omega)) ?_
  rintro s3 s4 w5 e5 ⟨h3, h4⟩
  have kxz := sz_mul (vl W64 l1) (vl W64 l3)
  have kyz := sz_mul (vl W64 l2) (vl W64 l3)
  generalize vl W64 l1 * vl W64 l3 = X at *
  generalize vl W64 l2 * vl W64 l3 = Y at *
  have e15 := (((e1.trans e2).trans e3).trans e4).trans e5
  refine gcd_mk (t := t) (hG.here.ext e15) fun p w6 g po nu ra ro dv rc c m d k e t tab e6 hE htt hp => ?_
  have z : w.w.heap.size ≤ t := Nat.le_trans e15.size htt
  refine cnd_f (by rw [hp]) ?_
  have r3 := h3.rd.ext e6
  have r4 := h4.rd.ext e6
  have dX := dz_of_sz (show sz X ≤ 18 by omega)
  have dY := dz_of_sz (show sz Y ≤ 18 by omega)
  refine c1 (keep_Lend r3 (by rw [dg_len]; omega)) fun s5 w7 e7 L5 => ?_
  refine c1 (keep_Lend (r4.ext e7) (by rw [dg_len]; omega)) fun s6 w8 e8 L6 => ?_
  have L5 := L5.ext e8
  have e68 := e7.trans e8
  have r3 := r3.ext e68
  have r4 := r4.ext e68
  refine c1 (law20_from r3 (by rw [dg_len]; omega)) fun s7 w9 e9 h7 => ?_
  refine c1 (law20_from (r4.ext e9) (by rw [dg_len]; omega)) fun s8 w10 e10 h8 => ?_
  rw [vl_dg W2] at h7 h8
  refine c1 (ref_Gcd (h7.ext e10).dr h8.dr (by omega) (by omega)) fun s9 w11 e11 h9 => ?_
  have dg' := dz_gcd X Y
  have e811 := (e9.trans e10).trans e11
  have L5 := L5.ext e811
  have L6 := L6.ext e811
  have r3 := r3.ext e811
  have r4 := r4.ext e811
  have e611 := e68.trans e811
  have hE11 := hE.ext e611
  have n5 := L5.nt
  have n6 := L6.nt
  have b5 := L5.blk
  have b6 := L6.blk
  have o3 := r3.lt_blk
  have o4 := r4.lt_blk
  rw [vl_dg W2] at n5 n6
  refine t1 hE11.tz (gcd_Lehmer hE11 n5 n6 (by omega) (by omega) (by decide) (by decide)) ?_
  rintro s10 w12 x12 ⟨h10, hE12⟩
  have L5 := L5.extT hE11.tz x12
  have L6 := L6.extT hE11.tz x12
  have r3 := r3.extT hE11.tz x12
  have r4 := r4.extT hE11.tz x12
  have h9 := h9.extT hE11.tz x12
  refine j1 (fun (b : Bool) w' => b = false ∧ Xt1 t w12 w' ∧ Eg w' p [g, po, nu, ra, ro, dv, rc, c, m, d, k, e] t 0 tab) ?_ ?_
  · refine sm h9 h10 (by omega) rfl fun w13 e13 => cnd_f rfl ?_
    have L5 := L5.ext e13
    have L6 := L6.ext e13
    have hE13 := hE12.ext e13
    have n5 := L5.nt
    have n6 := L6.nt
    rw [vl_dg W2] at n5 n6
    refine c1 (gcd_Binary hE13.gl n5 n6 (by omega) (by omega)) fun s11 w14 e14 h11 => ?_
    refine sm ((h9.ext e13).ext e14) h11 (by omega) rfl fun w15 e15' => cnd_f rfl ?_
    have e1315 := (e13.trans e14).trans e15'
    have n5 := (n5.ext e14).ext e15'
    have n6 := (n6.ext e14).ext e15'
    refine nw2 n5 n6 fun b1 w16 h16 e16 => ?_
    have hE16 := (hE12.ext e1315).ext e16
    refine t1 hE16.tz (gcd_Gcd (l := ⟨some ⟨b1, 0, none⟩, 2, 2⟩) hE16 h16 (getD2 (by omega) (by omega)) (by simp) (by decide) (by decide)) ?_
    rintro s12 w17 x17 ⟨h17, hE17⟩
    have hg : gcdl [X, Y] = Nat.gcd X Y := by simp [gcdl]
    rw [hg] at h17
    refine sm (((h9.ext e1315).ext e16).extT hE16.tz x17) h17 (by omega) rfl fun w18 e18 => ⟨rfl, ?_, hE17.ext e18⟩
    exact ((e1315.trans e16).any.trans x17).trans e18.any
  rintro b w19 ⟨rfl, x19, hE19⟩
  refine cnd_f rfl ?_
  have hT12 := hE12.tz
  have L5 := L5.extT hT12 x19
  have L6 := L6.extT hT12 x19
  have r3 := r3.extT hT12 x19
  have r4 := r4.extT hT12 x19
  have h10 := h10.extT hT12 x19
  refine cl_of (keep_Spoil h10) (fun b hb => h10.ow.2 b hb) ?_
  intro w20 x20 _
  have f10 := h10.blk_le
  have L5 := L5.extX x20 fun c hc h' => by have := (b5 c hc).2; have := f10 c h'; omega
  have L6 := L6.extX x20 fun c hc h' => by have := (b6 c hc).2; have := f10 c h'; omega
  have r3 := r3.extN x20 fun hl c hc h' => by have := o3 hl c hc; have := f10 c h'; omega
  have r4 := r4.extN x20 fun hl c hc h' => by have := o4 hl c hc; have := f10 c h'; omega
  have hE20 := hE19.young hE11 x20 f10
  have x1119 : Xt1 t w11 w19 := x12.trans x19
  have x620 : Xt1 t w6 w20 := Ext.mineT (e611.any.trans x1119) x20 fun c hc => .inr (Nat.le_trans e611.size (f10 c hc))
  refine j1 (fun (b : Bool) w' => b = true ∧ Ext none_ w20 w') ?_ ?_
  · refine c1 (keep_Intact L5 r3 (by rw [dg_len]; omega)) ?_
    rintro r w21 e21 rfl
    refine cnd_t rfl ?_
    refine c1 (keep_Intact (L6.ext e21) (r4.ext e21) (by rw [dg_len]; omega)) ?_
    rintro r w22 e22 rfl
    refine cnd_t rfl ?_
    exact wk20 ((hE20.ext e21).ext e22).gl fun w23 e23 => ⟨rfl, (e21.trans e22).trans e23⟩
  rintro b w24 ⟨rfl, e24⟩
  refine rt1 (c := .bool) true ?_ rfl
  exact (e15.trans e6).own (x620.trans e24.any) fun c hc => by subst hc; exact z
end Go.Proofs.YticehedkalheiaaGreatDoor.Zg
end

section
namespace Go.Proofs.YticehedkalheiaaGreatDoor.Zg
open Go.RowKit
theorem Chain.ptr {w : TW} {t : Nat} : ∀ {bs : List Nat} {p : Option Addr}, Chain w p bs t → ∀ b ∈ bs, ∃ q, w.w.cell? ⟨b, 0, none⟩ = some (.pointer q)
  | [], _, _, b, hb => by cases hb
  | c :: bs, _, ⟨_, _, q, h3, h4⟩, b, hb => by
    rcases List.mem_cons.1 hb with rfl | hb
    · exact ⟨q, h3⟩
    · exact Chain.ptr h4 b hb
/-- What another engine does leaves this one as it was. -/
theorem Eg.other {w w' : TW} {p : Option Addr} {bs : List Nat} {t u : Nat} {now : Int} {tab : List Int} (h : Eg w p bs t now tab) (hu : Tz w u) (htu : t ≠ u) (x : Xt1 u w w') : Eg w' p bs t now tab := by
  obtain ⟨a, b, c, g, m, d, hT⟩ := h
  refine ⟨a.extX x fun c hc hx => ?_, b, c, g.extT hu x, m, d, hT.extX x htu⟩
  subst hx
  obtain ⟨q, hq⟩ := a.ptr _ hc
  obtain ⟨m2, n2, d2, tb, hT2⟩ := hu
  rw [hT2.cell] at hq
  simp at hq
theorem getD3 {x y z B : Nat} (hx : sz x ≤ B) (hy : sz y ≤ B) (hz : sz z ≤ B) (i : Nat) : sz (([x, y, z] : List Nat).getD i 0) ≤ B := by
  match i with
  | 0 => exact hx
  | 1 => exact hy
  | 2 => exact hz
  | i + 3 => simp [sz, dg_zero]
theorem lcm3 (x y z : Nat) : lcml [x, y, z] = lcml [z, y, x] := by
  simp only [lcml, List.foldl_cons, List.foldl_nil, Nat.lcm_one_left]
  rw [Nat.lcm_assoc, Nat.lcm_comm, Nat.lcm_comm y z]
theorem law20_GcdTables {w : TW} {t u : HL I11} {a b c : Sl} (hG : Gl w) (ha : Arg w a) (hb : Arg w b) (hc : Arg w c) : Ct Pg F.zigguratlaw20_GcdTables [.agg (encs I11 t).toArray, .agg (encs I11 u).toArray, a.v, b.v, c.v] w none_ [.one .bool] fun (r : Bool) _ => r = true := by
  obtain ⟨la, ha⟩ := ha
  obtain ⟨lb, hb⟩ := hb
  obtain ⟨lc, hc⟩ := hc
  refine Ct.zigguratlaw20_GcdTables ?_
  unfold Sh.zigguratlaw20_GcdTables
  intro w0 e0 w1 e1
  have e1 := e0.trans e1
  refine cutc (n := 40) (ha.here.ext e1) rfl fun s w2 e2 hs _ => cutc (n := 40) ((hb.here.ext e1).ext e2) rfl fun s1 w3 e3 ht _ => cutc (n := 20) (((hc.here.ext e1).ext e2).ext e3) rfl fun s2 w4 e4 hu _ => ?_
  have hs := (hs.ext e3).ext e4
  have ht := ht.ext e4
  have kx := sz_vl hs.sm
  have ky := sz_vl ht.sm
  have kz := sz_vl hu.sm
  have nla : (la.take 40).length ≤ 40 := by simp; omega
  have nlb : (lb.take 40).length ≤ 40 := by simp; omega
  have nlc : (lc.take 20).length ≤ 20 := by simp; omega
  generalize la.take 40 = l1 at *
  generalize lb.take 40 = l2 at *
  generalize lc.take 20 = l3 at *
  refine c2 (law20_common hs ht hu (by omega) (by omega) (by omega)) ?_
  rintro s3 s4 w5 e5 ⟨h3, h4⟩
  have kxz := sz_mul (vl W64 l1) (vl W64 l3)
  have kyz := sz_mul (vl W64 l2) (vl W64 l3)
  have hz := (hu.ext e5).drew.nt
  have n3 := (h3.nt).drew
  have n4 := (h4.nt).drew
  generalize vl W64 l1 * vl W64 l3 = X at *
  generalize vl W64 l2 * vl W64 l3 = Y at *
  generalize vl W64 l3 = Z at *
  have e15 := ((((e1.trans e2).trans e3).trans e4).trans e5).drew
  refine gcd_mk (t := t) (hG.here.ext e15) fun p w6 g po nu ra ro dv rc c m d k e t tab e6 hE htt hp => ?_
  refine gcd_mk (t := u) ((hG.here.ext e15).ext e6) fun q w7 g' po' nu' ra' ro' dv' rc' c' m' d' k' e' t' tab' e7 hF htt' hq => ?_
  have z : w.w.heap.size ≤ t := Nat.le_trans e15.size htt
  have hlt := hE.lt
  have z' : w.w.heap.size ≤ t' := Nat.le_trans (e15.trans e6).size htt'
  have hne : t ≠ t' := by omega
  have e16 := (e15.trans e6).trans e7
  have hE := hE.ext e7
  have hz := (hz.ext e6).ext e7
  have n3 := (n3.ext e6).ext e7
  have n4 := (n4.ext e6).ext e7
  refine j1 (fun (b : Bool) w' => b = false ∧ w' = w7) ?_ ?_
  · exact cnd_f (by rw [hp]) ⟨hq, rfl⟩
  rintro b w7' ⟨rfl, rfl⟩
  refine cnd_f rfl ?_
  refine nw2 n3 n4 fun b1 w8 h8 e8 => ?_
  have hE := hE.ext e8
  have hF := hF.ext e8
  have hz := hz.ext e8
  have n3 := n3.ext e8
  have n4 := n4.ext e8
  refine t1 hE.tz (gcd_Gcd (l := ⟨some ⟨b1, 0, none⟩, 2, 2⟩) hE h8 (getD2 (by omega) (by omega)) (by simp) (by decide) (by decide)) ?_
  rintro s5 w9 x9 ⟨h9, hE9⟩
  rw [show gcdl [X, Y] = Nat.gcd X Y by simp [gcdl]] at h9
  have hF9 := hF.other hE.tz hne.symm x9
  have hz9 := hz.extT hE.tz x9
  have n39 := n3.extT hE.tz x9
  have n49 := n4.extT hE.tz x9
  -- what changes: the two tunes
  have f1 : Ext (fun c => c = t ∨ c = t') w7' w9 := (e8.any.trans x9).weak fun c h => .inl h
  clear hE hF hz n3 n4 x9
  refine j1 (fun (b : Bool) w' => b = true ∧ Ext (fun c => c = t ∨ c = t') w9 w') ?_ ?_
  · refine nw2 n49 n39 fun b2 w12 h12 e12 => ?_
    have hE := hE9.ext e12
    have hF := hF9.ext e12
    refine t1 hF.tz (gcd_Gcd (l := ⟨some ⟨b2, 0, none⟩, 2, 2⟩) hF h12 (getD2 (by omega) (by omega)) (by simp) (by decide) (by decide)) ?_
    rintro s6 w13 x13 ⟨h13, hF13⟩
    rw [show gcdl [Y, X] = Nat.gcd X Y by simp [gcdl, Nat.gcd_comm]] at h13
    have hE13 := hE.other hF.tz hne x13
    have h5 := (On.ext h9 e12).extT hF.tz x13
    refine same_on h5 h13 fun w14 e14 => cnd_t rfl ?_
    have n3 := ((n39.ext e12).extT hF.tz x13).ext e14
    have n4 := ((n49.ext e12).extT hF.tz x13).ext e14
    have hz := ((hz9.ext e12).extT hF.tz x13).ext e14
    have h5 := On.ext h5 e14
    have hE14 := hE13.ext e14
    have hF14 := hF13.ext e14
    refine t1 hE14.tz (gcd_Lehmer hE14 n3 n4 (by omega) (by omega) (by decide) (by decide)) ?_
    rintro s7 w15 x15 ⟨h15, hE15⟩
    have hF15 := hF14.other hE14.tz hne.symm x15
    have h5 := h5.extT hE14.tz x15
    refine same_on h5 h15 fun w16 e16' => cnd_t rfl ?_
    have n3 := (n3.extT hE14.tz x15).ext e16'
    have n4 := (n4.extT hE14.tz x15).ext e16'
    have hz := (hz.extT hE14.tz x15).ext e16'
    have h5 := On.ext h5 e16'
    have hE16 := hE15.ext e16'
    have hF16 := hF15.ext e16'
    refine c1 (gcd_Binary hE16.gl n3 n4 (by omega) (by omega)) fun s8 w17 e17 h17 => ?_
    refine same_on (On.ext h5 e17) h17 fun w18 e18 => cnd_t rfl ?_
    have e1618 := e17.trans e18
    have n3 := n3.ext e1618
    have n4 := n4.ext e1618
    have hz := hz.ext e1618
    refine nw3 n3 n4 hz fun b3 w19 h19 e19 => ?_
    have e1619 := e1618.trans e19
    have hE19 := hE16.ext e1619
    have hF19 := hF16.ext e1619
    refine t1 hE19.tz (gcd_Lcm (l := ⟨some ⟨b3, 0, none⟩, 3, 3⟩) hE19 h19 (fun i _ => getD3 (by omega) (by omega) (by omega) i) (by simp) (by decide) (by decide)) ?_
    rintro s9 w20 x20 ⟨h20, hE20⟩
    have hF20 := hF19.other hE19.tz hne.symm x20
    have n3 := (n3.ext e19).extT hE19.tz x20
    have n4 := (n4.ext e19).extT hE19.tz x20
    have hz := (hz.ext e19).extT hE19.tz x20
    refine nw3 hz n4 n3 fun b4 w21 h21 e21 => ?_
    have hF21 := hF20.ext e21
    refine t1 hF21.tz (gcd_Lcm (l := ⟨some ⟨b4, 0, none⟩, 3, 3⟩) hF21 h21 (fun i _ => getD3 (by omega) (by omega) (by omega) i) (by simp) (by decide) (by decide)) ?_
    rintro s10 w22 x22 ⟨h22, hF22⟩
    rw [lcm3] at h22
    refine same_on ((On.ext h20 e21).extT hF21.tz x22) h22 fun w23 e23 => cnd_t rfl ?_
    refine wk20 (hF22.ext e23).gl fun w24 e24 => ⟨rfl, ?_⟩
    have L : ∀ {v v' : TW}, Xt1 t v v' → Ext (fun c => c = t ∨ c = t') v v' := fun h => h.weak fun c h => .inl h
    have R : ∀ {v v' : TW}, Xt1 t' v v' → Ext (fun c => c = t ∨ c = t') v v' := fun h => h.weak fun c h => .inr h
    exact (((((e12.any.trans (R x13)).trans (e14.any.trans (L x15))).trans (e16'.trans e1619).any).trans (L x20)).trans (e21.any.trans (R x22))).trans (e23.trans e24).any
  rintro b w25 ⟨rfl, f2⟩
  refine rt1 (c := .bool) true ?_ rfl
  exact e16.own (f1.trans f2) fun c hc => hc.elim (fun h => by subst h; exact z) fun h => by subst h; exact z'
theorem sz_dz (z : Nat) : sz z ≤ dz z := sz_pow (Nat.lt_of_lt_of_le (dz_lt z) (Nat.pow_le_pow_left (by decide) _))
theorem dz_bits {z k n : Nat} (h : z ≤ 2 ^ k) (hk : k < 32 * n) : dz z ≤ n := dz_pow (Nat.lt_of_le_of_lt h (by
  rw [show B32 ^ n = 2 ^ (32 * n) by rw [Nat.pow_mul]]
  exact Nat.pow_lt_pow_right (by decide) hk))
theorem law20_GcdSteps {w : TW} {t : HL I11} {n : Int} {c : Sl} (hG : Gl w) (_ : -9223372036854775808 ≤ n ∧ n ≤ 9223372036854775807) (hc : Arg w c) : Ct Pg F.zigguratlaw20_GcdSteps [.agg (encs I11 t).toArray, .int .i64 n, c.v] w none_ [.one .bool] fun (r : Bool) _ => r = true := by
  obtain ⟨lc, hc⟩ := hc
  refine Ct.zigguratlaw20_GcdSteps ?_
  unfold Sh.zigguratlaw20_GcdSteps
  intro w1 e1
  refine cutc (n := 3) (hc.here.ext e1) rfl fun s w2 e2 hs _ => ?_
  have kz := sz_vl hs.sm
  have nlc : (lc.take 3).length ≤ 3 := by simp; omega
  generalize lc.take 3 = l at *
  refine c1 (keep_Within (n := 700) (by decide) (by decide)) ?_
  rintro r w3 e3 ⟨r0, r1⟩
  refine c1 (ref_Small (y := 1) (by decide)) fun s1 w4 e4 h1 => ?_
  refine c1 (ref_Small (y := 1) (by decide)) fun s2 w5 e5 h2 => ?_
  have e25 := (e3.trans e4).trans e5
  refine ⟨fun (a b : Sl) (_ _ _ _ _ _ _ _ _ _ _ : Int) w8 => ∃ A B, Dr w8 a A ∧ Dr w8 b B ∧ Nat.gcd A B = 1 ∧ dz A ≤ 64 ∧ dz B ≤ 64 ∧ Ext none_ w5 w8, ?_, ?_⟩
  · refine ⟨fun (M : Nat) (a b : Sl) (i _ _ _ _ _ _ _ _ _ _ _ : Int) w6 => ∃ j A B : Nat, i = j ∧ M = 700 - j ∧ j ≤ 700 ∧ Dr w6 a A ∧ Dr w6 b B ∧ Nat.gcd A B = 1 ∧ A ≤ 2 ^ (j + 1) ∧ B ≤ 2 ^ (j + 1) ∧ Ext none_ w5 w6, ⟨700, 0, 1, 1, rfl, rfl, by omega, h1.dr.ext e5, h2.dr, rfl, by decide, by decide, Ext.refl _ _⟩, ?_⟩
    rintro M a b i t1 t2 t3 t4 t5 t6 t7 t8 t9 t10 t11 w6 ⟨j, A, B, rfl, rfl, hj, hA, hB, hg, lA, lB, e6⟩
    have hdz : ∀ z, z ≤ 2 ^ (j + 1) → dz z ≤ 64 := fun z hz => dz_bits hz (by omega)
    have dA := hdz A lA
    have dB := hdz B lB
    refine cnd_d (fun h => ?_) (fun h => ?_)
    · have h : (j : Int) < r := h
      have hj2 : j < 700 := by omega
      refine c1 (ref_Add hA hB (by omega) (by omega)) fun s3 w7 e7 h3 => ?_
      refine bnd_eq (y := ((j + 1 : Nat) : Int)) (by show wi ((j : Int) + 1) = _; rw [wi_id (by omega) (by omega)]; omega) ⟨700 - (j + 1), by omega, j + 1, B, A + B, rfl, rfl, by omega, hB.ext e7, h3.dr, ?_, ?_, ?_, e6.trans e7⟩
      · rw [Nat.gcd_comm, Nat.gcd_add_self_left]; exact hg
      · exact Nat.le_trans lB (Nat.pow_le_pow_right (by decide) (by omega))
      · rw [Nat.pow_succ]; omega
    · exact ⟨A, B, hA, hB, hg, dA, dB, e6⟩
  rintro a b t1' t2' t3' t4' t5' t6' t7' t8' t9' t10' t11' w8 ⟨A, B, hA, hB, hg, dA, dB, e8⟩
  have hs8 := (hs.ext e25).ext e8
  have dz3 := dz_of_sz (show sz (vl W64 l) ≤ 3 by omega)
  refine c1 (law20_from hs8 (by omega)) fun s4 w9 e9 h9 => ?_
  refine c1 (ref_Mul (hA.ext e9) h9.dr (by omega) (by omega)) fun s5 w10 e10 h10 => ?_
  have k1 := dz_mul A (vl W64 l)
  refine c1 (ref_To h10.dr (by omega)) fun s6 w11 e11 h11 => ?_
  have e811 := (e9.trans e10).trans e11
  refine c1 (law20_from (hs8.ext e811) (by omega)) fun s7 w12 e12 h12 => ?_
  refine c1 (ref_Mul ((hB.ext e811).ext e12) h12.dr (by omega) (by omega)) fun s8 w13 e13 h13 => ?_
  have k2 := dz_mul B (vl W64 l)
  refine c1 (ref_To h13.dr (by omega)) fun s9 w14 e14 h14 => ?_
  have e1114 := (e12.trans e13).trans e14
  have hX := (h11.nt).ext e1114
  have hY := h14.nt
  have hs14 := (hs8.ext e811).ext e1114
  have hgc : Nat.gcd (A * vl W64 l) (B * vl W64 l) = vl W64 l := by rw [Nat.gcd_mul_right, hg, Nat.one_mul]
  have sX : ∀ z, dz z ≤ 128 → sz z ≤ 8192 := fun z hz => Nat.le_trans (sz_dz z) (by omega)
  have lX := sX _ (show dz (A * vl W64 l) ≤ 128 by omega)
  have lY := sX _ (show dz (B * vl W64 l) ≤ 128 by omega)
  have e114 := (((e1.trans e2).trans e25).trans e8).trans (e811.trans e1114)
  refine gcd_mk (t := (t1', t2', t3', t4', t5', t6', t7', t8', t9', t10', t11', ())) (hG.here.ext e114) fun p w15 g po nu ra ro dv rc c m d k e t tab e15 hE htt hp => ?_
  have z : w.w.heap.size ≤ t := Nat.le_trans e114.size htt
  refine j1 (fun (b : Bool) w' => b = true ∧ Xt1 t w15 w') ?_ ?_
  · refine cnd_t (by rw [hp]; rfl) ?_
    have hs := hs14.ext e15
    have hX := hX.ext e15
    have hY := hY.ext e15
    refine c1 (law20_from hs (by omega)) fun s10 w16 e16 h16 => ?_
    refine nw2 (hX.ext e16) (hY.ext e16) fun b2 w17 h17 e17 => ?_
    have e1517 := e16.trans e17
    have hE := hE.ext e1517
    refine t1 hE.tz (gcd_Gcd (l := ⟨some ⟨b2, 0, none⟩, 2, 2⟩) hE h17 (getD2 lX lY) (by simp) (by decide) (by decide)) ?_
    rintro s11 w18 x18 ⟨h18, hE18⟩
    rw [show gcdl [A * vl W64 l, B * vl W64 l] = vl W64 l by simp [gcdl, hgc]] at h18
    refine sm ((h16.dr.ext e17).extT hE.tz x18) h18 (by omega) rfl fun w19 e19 => cnd_t rfl ?_
    have hs := ((hs.ext e1517).extT hE.tz x18).ext e19
    have hX := ((hX.ext e1517).extT hE.tz x18).ext e19
    have hY := ((hY.ext e1517).extT hE.tz x18).ext e19
    have hE19 := hE18.ext e19
    refine c1 (law20_from hs (by omega)) fun s12 w20 e20 h20 => ?_
    have hE20 := hE19.ext e20
    refine t1 hE20.tz (gcd_Lehmer hE20 (hY.ext e20) (hX.ext e20) lY lX (by decide) (by decide)) ?_
    rintro s13 w21 x21 ⟨h21, hE21⟩
    rw [Nat.gcd_comm, hgc] at h21
    refine sm (h20.dr.extT hE20.tz x21) h21 (by omega) rfl fun w22 e22 => cnd_t rfl ?_
    have hs := ((hs.ext e20).extT hE20.tz x21).ext e22
    have hX := ((hX.ext e20).extT hE20.tz x21).ext e22
    have hY := ((hY.ext e20).extT hE20.tz x21).ext e22
    have hE22 := hE21.ext e22
    refine c1 (law20_from hs (by omega)) fun s14 w23 e23 h23 => ?_
    refine c1 (gcd_Binary (hE22.ext e23).gl (hX.ext e23) (hY.ext e23) lX lY) fun s15 w24 e24 h24 => ?_
    rw [hgc] at h24
    refine sm (h23.dr.ext e24) h24 (by omega) rfl fun w25 e25 => cnd_t rfl ?_
    refine wk20 (((hE22.ext e23).ext e24).ext e25).gl fun w26 e26 => ⟨rfl, ?_⟩
    exact (((e1517.any.trans x18).trans (e19.trans e20).any).trans x21).trans (((e22.trans e23).trans e24).trans (e25.trans e26)).any
  rintro b w27 ⟨rfl, x27⟩
  exact rt1 (c := .bool) true ((e114.trans e15).own x27 fun c hc => by subst hc; exact z) rfl
end Go.Proofs.YticehedkalheiaaGreatDoor.Zg
end

section
namespace Go.Proofs.YticehedkalheiaaGreatDoor.Zg
open Go.RowKit
set_option maxHeartbeats 400000 in
theorem law20_GcdLaws {w : TW} {t : HL I11} {a b c : Sl} (hG : Gl w) (ha : Arg w a) (hb : Arg w b) (hc : Arg w c) : Ct Pg F.zigguratlaw20_GcdLaws [.agg (encs I11 t).toArray, a.v, b.v, c.v] w none_ [.one .bool] fun (r : Bool) _ => r = true := by
  obtain ⟨la, ha⟩ := ha
  obtain ⟨lb, hb⟩ := hb
  obtain ⟨lc, hc⟩ := hc
  refine Ct.zigguratlaw20_GcdLaws ?_
  unfold Sh.zigguratlaw20_GcdLaws
  intro w1 e1
  refine cutc (n := 16) (ha.here.ext e1) rfl fun s w2 e2 hs _ => cutc (n := 16) ((hb.here.ext e1).ext e2) rfl fun s1 w3 e3 ht _ => cutc (n := 8) (((hc.here.ext e1).ext e2).ext e3) rfl fun s2 w4 e4 hu _ => ?_
  have hs := (hs.ext e3).ext e4
  have ht := ht.ext e4
  have kx := sz_vl hs.sm
  have ky := sz_vl ht.sm
  have kz := sz_vl hu.sm
  have nla : (la.take 16).length ≤ 16 := by simp; omega
  have nlb : (lb.take 16).length ≤ 16 := by simp; omega
  have nlc : (lc.take 8).length ≤ 8 := by simp; omega
  generalize la.take 16 = l1 at *
  generalize lb.take 16 = l2 at *
  generalize lc.take 8 = l3 at *
  refine c2 (law20_common hs ht hu (by omega) (by omega) (by omega)) ?_
  rintro s3 s4 w5 e5 ⟨h3, h4⟩
  have kxz := sz_mul (vl W64 l1) (vl W64 l3)
  have kyz := sz_mul (vl W64 l2) (vl W64 l3)
  have hu5 := hu.ext e5
  have dz3 := dz_of_sz (show sz (vl W64 l3) ≤ 8 by omega)
  have r3 := h3.rd
  have r4 := h4.rd
  generalize vl W64 l1 * vl W64 l3 = X at *
  generalize vl W64 l2 * vl W64 l3 = Y at *
  clear h3 h4 hs ht hu
  have dX := dz_of_sz (show sz X ≤ 24 by omega)
  have dY := dz_of_sz (show sz Y ≤ 24 by omega)
  have e15 := (((e1.trans e2).trans e3).trans e4).trans e5
  refine gcd_mk (t := t) (hG.here.ext e15) fun p w6 g po nu ra ro dv rc c m d k e t tab e6 hE htt hp => ?_
  have z : w.w.heap.size ≤ t := Nat.le_trans e15.size htt
  refine cnd_f (by rw [hp]) ?_
  have hu := hu5.ext e6
  have r3 := r3.ext e6
  have r4 := r4.ext e6
  have N3 : ∀ {v : TW}, Rd v s3 (dg W64 X) → Nt v s3 X := fun h => by have := h.nt; rwa [vl_dg W2] at this
  have N4 : ∀ {v : TW}, Rd v s4 (dg W64 Y) → Nt v s4 Y := fun h => by have := h.nt; rwa [vl_dg W2] at this
  refine nw2 (N3 r3) (N4 r4) fun b1 w7 h7 e7 => ?_
  have hE7 := hE.ext e7
  refine t1 hE7.tz (gcd_Gcd (l := ⟨some ⟨b1, 0, none⟩, 2, 2⟩) hE7 h7 (getD2 (by omega) (by omega)) (by simp) (by decide) (by decide)) ?_
  rintro s5 w8 x8 ⟨h5, hE8⟩
  rw [show gcdl [X, Y] = Nat.gcd X Y by simp [gcdl]] at h5
  have r3 := (r3.ext e7).extT hE7.tz x8
  have r4 := (r4.ext e7).extT hE7.tz x8
  have hu := (hu.ext e7).extT hE7.tz x8
  have x68 : Xt1 t w6 w8 := e7.any.trans x8
  clear hE7 hE h7 hu5
  have fin : ∀ {v : TW}, Xt1 t w6 v → Ext none_ w.here v := fun x => (e15.trans e6).own x fun c hc => by subst hc; exact z
  have Zr : ∀ {v : TW} {s : Sl} {x : Nat} {K : Bool → TW → Prop}, Nt v s x → (∀ v', Ext none_ v v' → K (decide (x = 0)) v') → cl Pg F.api_Nat_Zero [s.v] v [.one .bool] K := fun h hK => by
    refine c1 (api_Zero h) ?_
    rintro _ v' e rfl
    exact hK v' e
  refine j1 (fun (b : Bool) w' => b = decide (X = 0 ∧ Y = 0) ∧ Ext none_ w8 w') ?_ ?_
  · refine Zr (N3 r3) fun w9 e9 => ?_
    refine cnd_d (fun h => ?_) (fun h => ?_)
    · exact Zr ((N4 r4).ext e9) fun w10 e10 => ⟨Dec.eq ⟨fun h' => ⟨h, h'⟩, fun h' => h'.2⟩, e9.trans e10⟩
    · exact ⟨by rw [eq_comm, decide_eq_false_iff_not]; exact fun h' => h h'.1, e9⟩
  rintro b w11 ⟨rfl, e11⟩
  have hE11 := hE8.ext e11
  refine cnd_d (fun h0 => ?_) (fun h0 => ?_)
  · obtain ⟨rfl, rfl⟩ := h0
    have n5 := h5.rd.len
    rw [dg_len, Nat.gcd_zero_left] at n5
    have hn0 : s5.n = 0 := by rw [n5]; simp [sz, dg_zero]
    refine j1 (fun (b : Bool) w' => b = true ∧ Ext none_ w11 w') ?_ ?_
    · refine cnd_t (by rw [hn0]; rfl) ?_
      exact wk20 hE11.gl fun w12 e12 => ⟨rfl, e12⟩
    rintro b w13 ⟨rfl, e13⟩
    exact rt1 (c := .bool) true (fin ((x68.trans e11.any).trans e13.any)) rfl
  obtain ⟨G, hGe⟩ : ∃ G, Nat.gcd X Y = G := ⟨_, rfl⟩
  rw [hGe] at h5
  have G0 : 0 < G := by
    rw [← hGe]
    rcases Nat.eq_zero_or_pos X with h | h
    · exact Nat.gcd_pos_of_pos_right _ (Nat.pos_of_ne_zero fun h' => h0 ⟨h, h'⟩)
    · exact Nat.gcd_pos_of_pos_left _ h
  have kG : sz G ≤ 24 := by have := sz_gcd X Y; rw [hGe] at this; omega
  have dX' : X % G = 0 := Nat.mod_eq_zero_of_dvd (by rw [← hGe]; exact Nat.gcd_dvd_left X Y)
  have dY' : Y % G = 0 := Nat.mod_eq_zero_of_dvd (by rw [← hGe]; exact Nat.gcd_dvd_right X Y)
  have r3 := r3.ext e11
  have r4 := r4.ext e11
  have hu := hu.ext e11
  have h5 := On.ext h5 e11
  have Ex : ∀ {v : TW} {s : Sl} {x : Nat} {K : Sl → Int → TW → Prop}, Eg v p [g, po, nu, ra, ro, dv, rc, c, m, d, k, e] t 0 tab → Nt v s x → x % G = 0 → sz x ≤ 24 → Nt v s5 G → (∀ q v', Xt1 t v v' → On v' v.w.heap.size q (x / G) → Eg v' p [g, po, nu, ra, ro, dv, rc, c, m, d, k, e] t 0 tab → K q 0 v') → nck p fun a1 =>
      ldc (.ptr) v a1 fun (v0 : Option Addr) =>
      nck v0 fun a2 =>
      ldc (.ptr) v a2 fun (v1 : Option Addr) =>
      nck v1 fun a3 =>
      ldc (.ptr) v a3 fun (v2 : Option Addr) =>
      nck v2 fun a4 =>
      ldc (.ptr) v a4 fun (v3 : Option Addr) =>
      nck v3 fun a5 =>
      ldc (.ptr) v a5 fun (v4 : Option Addr) =>
      cl Pg F.div_Engine_Exact [.pointer v4, s.v, s5.v] v [.one .slice, .one (.int .i64)] K := by
    intro v s x K hE hs hx hl hg hK
    refine hE.down fun q1 E1 => E1.down fun q2 E2 => E2.down fun q3 E3 => E3.down fun q4 E4 => E4.down fun q5 E5 => ?_
    refine t2 E5.tz (div_Exact E5 hs hg (by omega) (by omega) (by decide) (by decide)) ?_
    rintro q er v' x' ⟨g1, g2, g3⟩
    rw [if_neg (by simp [hx]; omega)] at g1
    rw [if_neg (by omega), if_pos hx] at g2
    subst g2
    exact hK q v' x' g1 (hE.re x' g3)
  refine Ex hE11 (N3 r3) dX' (by omega) h5.nt fun s6 w14 x14 h6 hE14 => ?_
  have hT11 := hE11.tz
  have r3 := r3.extT hT11 x14
  have r4 := r4.extT hT11 x14
  have hu := hu.extT hT11 x14
  have h5 := h5.extT hT11 x14
  refine Ex hE14 (N4 r4) dY' (by omega) h5.nt fun s7 w15 x15 h7 hE15 => ?_
  have hT14 := hE14.tz
  have r3 := r3.extT hT14 x15
  have r4 := r4.extT hT14 x15
  have hu := hu.extT hT14 x15
  have h5 := h5.extT hT14 x15
  have h6 := h6.extT hT14 x15
  have x15' : Xt1 t w6 w15 := (x68.trans e11.any).trans (x14.trans x15)
  refine j1 (fun (b : Bool) w' => b = false ∧ Xt1 t w15 w' ∧ Eg w' p [g, po, nu, ra, ro, dv, rc, c, m, d, k, e] t 0 tab) ?_ ?_
  · refine cnd_f (by simp) (cnd_f (by simp) ?_)
    have k6 : sz (X / G) ≤ sz X := sz_div
    have k7 : sz (Y / G) ≤ sz Y := sz_div
    refine nw2 h6.nt h7.nt fun b2 w16 h16 e16 => ?_
    have hE16 := hE15.ext e16
    refine t1 hE16.tz (gcd_Gcd (l := ⟨some ⟨b2, 0, none⟩, 2, 2⟩) hE16 h16 (getD2 (by omega) (by omega)) (by simp) (by decide) (by decide)) ?_
    rintro s8 w17 x17 ⟨h17, hE17⟩
    have h1 : gcdl [X / G, Y / G] = 1 := by
      simp only [gcdl, List.foldl_cons, List.foldl_nil, Nat.gcd_zero_left]
      have h := Nat.gcd_mul_right (X / G) G (Y / G)
      rw [Nat.div_mul_cancel (Nat.dvd_of_mod_eq_zero dX'), Nat.div_mul_cancel (Nat.dvd_of_mod_eq_zero dY'), hGe] at h
      have h2 : 1 * G = Nat.gcd (X / G) (Y / G) * G := by rw [Nat.one_mul]; exact h
      exact (Nat.eq_of_mul_eq_mul_right G0 h2).symm
    rw [h1] at h17
    refine nw_u64 (x := 1) rfl (by decide) fun b3 w18 h18 e18 => ?_
    refine same_w (x := 1) (On.ext h17 e18) (by decide) (by decide) h18 fun w19 e19 => cnd_f rfl ?_
    have e1719 := e18.trans e19
    have hT16 := hE16.tz
    have r3 := ((r3.ext e16).extT hT16 x17).ext e1719
    have r4 := ((r4.ext e16).extT hT16 x17).ext e1719
    have h5 := On.ext ((On.ext h5 e16).extT hT16 x17) e1719
    refine nw2 (N4 r4) (N3 r3) fun b4 w20 h20 e20 => ?_
    have hE20 := (hE17.ext e1719).ext e20
    refine t1 hE20.tz (gcd_Gcd (l := ⟨some ⟨b4, 0, none⟩, 2, 2⟩) hE20 h20 (getD2 (by omega) (by omega)) (by simp) (by decide) (by decide)) ?_
    rintro s9 w21 x21 ⟨h21, hE21⟩
    rw [show gcdl [Y, X] = G by simp only [gcdl, List.foldl_cons, List.foldl_nil, Nat.gcd_zero_left]; rw [Nat.gcd_comm]; exact hGe] at h21
    have h5 := (On.ext h5 e20).extT hE20.tz x21
    refine same_on h21 h5 fun w22 e22 => ⟨rfl, ?_, hE21.ext e22⟩
    exact ((e16.any.trans x17).trans (e1719.trans e20).any).trans (x21.trans e22.any)
  rintro b w23 ⟨rfl, x23, hE23⟩
  refine cnd_f rfl ?_
  have hT15 := hE15.tz
  have r3 := r3.extT hT15 x23
  have r4 := r4.extT hT15 x23
  have hu := hu.extT hT15 x23
  have h5 := h5.extT hT15 x23
  clear h6 h7
  refine c1 (law20_from r3 (by rw [dg_len]; omega)) fun s10 w24 e24 h10 => ?_
  refine c1 (law20_from (r4.ext e24) (by rw [dg_len]; omega)) fun s11 w25 e25 h11 => ?_
  rw [vl_dg W2] at h10 h11
  refine c1 (law20_from ((hu.ext e24).ext e25) (by omega)) fun s12 w26 e26 h12 => ?_
  refine c1 (ref_Mul (h11.ext e26).dr h12.dr (by omega) (by omega)) fun s13 w27 e27 h13 => ?_
  have k1 := dz_mul Y (vl W64 l3)
  refine c1 (ref_Add (((h10.ext e25).ext e26).ext e27).dr h13.dr (by omega) (by omega)) fun s14 w28 e28 h14 => ?_
  have k2 := sz_add X (Y * vl W64 l3)
  have k3 := sz_mul Y (vl W64 l3)
  have k4 := dz_of_sz (show sz (X + Y * vl W64 l3) ≤ 64 by omega)
  refine c1 (ref_To h14.dr (by omega)) fun s15 w29 e29 h15 => ?_
  have e2329 := ((((e24.trans e25).trans e26).trans e27).trans e28).trans e29
  have r3 := r3.ext e2329
  have r4 := r4.ext e2329
  have h5 := On.ext h5 e2329
  have x629 : Xt1 t w6 w29 := (x15'.trans x23).trans e2329.any
  have hE29 := hE23.ext e2329
  refine j1 (fun (b : Bool) w' => b = decide (X = 0 ∨ Y = 0) ∧ Ext none_ w29 w') ?_ ?_
  · refine Zr (N3 r3) fun w30 e30 => ?_
    refine cnd_d (fun h => ?_) (fun h => ?_)
    · exact ⟨by rw [eq_comm, decide_eq_true_iff]; exact .inl h, e30⟩
    · exact Zr ((N4 r4).ext e30) fun w31 e31 => ⟨Dec.eq ⟨fun h' => .inr h', fun h' => h'.resolve_left h⟩, e30.trans e31⟩
  rintro b w32 ⟨rfl, e32⟩
  have hE32 := hE29.ext e32
  refine cnd_d (fun hor => ?_) (fun hor => ?_)
  · exact wk20 hE32.gl fun w33 e33 => rt1 (c := .bool) true (fin ((x629.trans e32.any).trans e33.any)) rfl
  have r3 := r3.ext e32
  have r4 := r4.ext e32
  have h5 := On.ext h5 e32
  have h15 := On.ext h15 e32
  refine nw2 (N3 r3) (N4 r4) fun b5 w34 h34 e34 => ?_
  have hE34 := hE32.ext e34
  refine t1 hE34.tz (gcd_Lcm (l := ⟨some ⟨b5, 0, none⟩, 2, 2⟩) hE34 h34 (fun i _ => getD2 (by omega) (by omega) i) (by simp) (by decide) (by decide)) ?_
  rintro s16 w35 x35 ⟨h16, hE35⟩
  have hl : lcml [X, Y] = Nat.lcm X Y := by simp [lcml, Nat.lcm_one_left]
  rw [hl] at h16
  have hT34 := hE34.tz
  have r3 := ((r3.ext e34).extT hT34 x35).drew
  have r4 := ((r4.ext e34).extT hT34 x35).drew
  have h5 : On w35.drew _ s5 G := Ow.drew ((On.ext h5 e34).extT hT34 x35)
  have h15 : On w35.drew _ s15 _ := Ow.drew ((On.ext h15 e34).extT hT34 x35)
  have h16 : On w35.drew _ s16 _ := Ow.drew h16
  have hE35 := hE35.drew
  have x635 : Xt1 t w6 w35.drew := ((x629.trans (e32.trans e34).any).trans x35).drew
  have kL : sz (Nat.lcm X Y) ≤ sz X + sz Y := by
    rw [← lcm_eq]
    have := sz_mul X (Y / Nat.gcd X Y)
    have h2 : sz (Y / Nat.gcd X Y) ≤ sz Y := sz_div
    omega
  refine j1 (fun (b : Bool) w' => b = true ∧ Xt1 t w35.drew w') ?_ ?_
  · refine nw2 h15.nt (N4 r4) fun b6 w36 h36 e36 => ?_
    have hE36 := hE35.ext e36
    refine t1 hE36.tz (gcd_Gcd (l := ⟨some ⟨b6, 0, none⟩, 2, 2⟩) hE36 h36 (getD2 (by omega) (by omega)) (by simp) (by decide) (by decide)) ?_
    rintro s17 w37 x37 ⟨h37, hE37⟩
    have hg2 : gcdl [X + Y * vl W64 l3, Y] = G := by
      simp only [gcdl, List.foldl_cons, List.foldl_nil, Nat.gcd_zero_left]
      rw [Nat.gcd_comm, Nat.mul_comm Y, Nat.gcd_add_mul_right_right, Nat.gcd_comm]; exact hGe
    rw [hg2] at h37
    have hT36 := hE36.tz
    have h5 := (On.ext h5 e36).extT hT36 x37
    refine same_on h37 h5 fun w38 e38 => cnd_t rfl ?_
    have r3 := ((r3.ext e36).extT hT36 x37).ext e38
    have r4 := ((r4.ext e36).extT hT36 x37).ext e38
    have h5 := On.ext h5 e38
    have h16 := On.ext ((On.ext h16 e36).extT hT36 x37) e38
    have hE38 := hE37.ext e38
    refine hE38.downC fun vq1 vE1 vh1 vn1 => vE1.downC fun vq2 vE2 vh2 vn2 => vE2.downC fun vq3 vE3 vh3 vn3 => vE3.downC fun vq4 vE4 vh4 vn4 => vE4.downC fun vq5 vE5 vh5 vn5 => vE5.downC fun vq6 vE6 vh6 vn6 => vE6.downC fun vq7 vE7 vh7 vn7 => vE7.downC fun vq8 vE8 vh8 vn8 =>  ?_
    refine hE38.downC fun uq1 uE1 uh1 un1 => uE1.downC fun uq2 uE2 uh2 un2 => uE2.downC fun uq3 uE3 uh3 un3 => uE3.downC fun uq4 uE4 uh4 un4 => uE4.downC fun uq5 uE5 uh5 un5 => uE5.downC fun uq6 uE6 uh6 un6 => uE6.downC fun uq7 uE7 uh7 un7 => uE7.downC fun uq8 uE8 uh8 un8 =>  ?_
    refine t1 vE8.tz (mul_Mul vE8 h16.nt h5.nt (by omega) (by omega) (by decide) (by decide)) ?_
    rintro s18 w39 x39 ⟨h39, vE39⟩
    refine hldL (.cons (uh8.extT x39 un8) (.cons (uh7.extT x39 un7) (.cons (uh6.extT x39 un6) (.cons (uh5.extT x39 un5) (.cons (uh4.extT x39 un4) (.cons (uh3.extT x39 un3) (.cons (uh2.extT x39 un2) (.cons (uh1.extT x39 un1) (.cons (vh7.extT x39 vn7) (.cons (vh6.extT x39 vn6) (.cons (vh5.extT x39 vn5) (.cons (vh4.extT x39 vn4) (.cons (vh3.extT x39 vn3) (.cons (vh2.extT x39 vn2) (.cons (vh1.extT x39 vn1) (.nil _)))))))))))))))) ?_
    have hT38 := hE38.tz
    have uE39 := uE8.re x39 vE39
    refine t1 uE39.tz (mul_Mul uE39 (N3 (r3.extT hT38 x39)) (N4 (r4.extT hT38 x39)) (by omega) (by omega) (by decide) (by decide)) ?_
    rintro s19 w40 x40 ⟨h40, uE40⟩
    refine hldL (.cons ((uh7.extT x39 un7).extT x40 un7) (.cons ((uh6.extT x39 un6).extT x40 un6) (.cons ((uh5.extT x39 un5).extT x40 un5) (.cons ((uh4.extT x39 un4).extT x40 un4) (.cons ((uh3.extT x39 un3).extT x40 un3) (.cons ((uh2.extT x39 un2).extT x40 un2) (.cons ((uh1.extT x39 un1).extT x40 un1) (.cons ((vh7.extT x39 vn7).extT x40 vn7) (.cons ((vh6.extT x39 vn6).extT x40 vn6) (.cons ((vh5.extT x39 vn5).extT x40 vn5) (.cons ((vh4.extT x39 vn4).extT x40 vn4) (.cons ((vh3.extT x39 vn3).extT x40 vn3) (.cons ((vh2.extT x39 vn2).extT x40 vn2) (.cons ((vh1.extT x39 vn1).extT x40 vn1) (.nil _))))))))))))))) ?_
    have h39 := h39.extT uE39.tz x40
    rw [show Nat.lcm X Y * G = X * Y by rw [← hGe, Nat.mul_comm, Nat.gcd_mul_lcm]] at h39
    refine same_on h39 h40 fun w41 e41 => hldL (.cons (((uh7.extT x39 un7).extT x40 un7).ext e41) (.cons (((uh6.extT x39 un6).extT x40 un6).ext e41) (.cons (((uh5.extT x39 un5).extT x40 un5).ext e41) (.cons (((uh4.extT x39 un4).extT x40 un4).ext e41) (.cons (((uh3.extT x39 un3).extT x40 un3).ext e41) (.cons (((uh2.extT x39 un2).extT x40 un2).ext e41) (.cons (((uh1.extT x39 un1).extT x40 un1).ext e41) (.cons (((vh7.extT x39 vn7).extT x40 vn7).ext e41) (.cons (((vh6.extT x39 vn6).extT x40 vn6).ext e41) (.cons (((vh5.extT x39 vn5).extT x40 vn5).ext e41) (.cons (((vh4.extT x39 vn4).extT x40 vn4).ext e41) (.cons (((vh3.extT x39 vn3).extT x40 vn3).ext e41) (.cons (((vh2.extT x39 vn2).extT x40 vn2).ext e41) (.cons (((vh1.extT x39 vn1).extT x40 vn1).ext e41) (.nil _))))))))))))))) (cnd_t rfl ?_)
    refine wk20 (uE40.ext e41).gl fun w42 e42 => hldL (.cons ((((uh7.extT x39 un7).extT x40 un7).ext e41).ext e42) (.cons ((((uh6.extT x39 un6).extT x40 un6).ext e41).ext e42) (.cons ((((uh5.extT x39 un5).extT x40 un5).ext e41).ext e42) (.cons ((((uh4.extT x39 un4).extT x40 un4).ext e41).ext e42) (.cons ((((uh3.extT x39 un3).extT x40 un3).ext e41).ext e42) (.cons ((((uh2.extT x39 un2).extT x40 un2).ext e41).ext e42) (.cons ((((uh1.extT x39 un1).extT x40 un1).ext e41).ext e42) (.cons ((((vh7.extT x39 vn7).extT x40 vn7).ext e41).ext e42) (.cons ((((vh6.extT x39 vn6).extT x40 vn6).ext e41).ext e42) (.cons ((((vh5.extT x39 vn5).extT x40 vn5).ext e41).ext e42) (.cons ((((vh4.extT x39 vn4).extT x40 vn4).ext e41).ext e42) (.cons ((((vh3.extT x39 vn3).extT x40 vn3).ext e41).ext e42) (.cons ((((vh2.extT x39 vn2).extT x40 vn2).ext e41).ext e42) (.cons ((((vh1.extT x39 vn1).extT x40 vn1).ext e41).ext e42) (.nil _))))))))))))))) ⟨rfl, ?_⟩
    exact ((e36.any.trans x37).trans (e38.any.trans x39)).trans (x40.trans (e41.trans e42).any)
  rintro b w43 ⟨rfl, x43⟩
  exact rt1 (c := .bool) true (fin (x635.trans x43)) rfl
end Go.Proofs.YticehedkalheiaaGreatDoor.Zg
end
