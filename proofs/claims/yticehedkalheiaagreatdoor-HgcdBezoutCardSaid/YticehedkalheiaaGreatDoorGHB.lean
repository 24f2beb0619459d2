/- A part of the proofs of this seat's laws: words, lemmas or contracts of its functions. -/
import Derived.Test.YticehedkalheiaaGreatDoorGHA
import Derived.Test.YticehedkalheiaaGreatDoorGIA
import Derived.Test.YticehedkalheiaaGreatDoorGP4
import Derived.Test.YticehedkalheiaaGreatDoorGA
import Derived.Test.YticehedkalheiaaGreatDoorGMA
import Derived.Test.YticehedkalheiaaGreatDoorGMB
import Derived.Test.YticehedkalheiaaGreatDoorGMD
import Derived.Test.YticehedkalheiaaGreatDoorGME
import Derived.Test.YticehedkalheiaaGreatDoorGKA
import Derived.Test.YticehedkalheiaaGreatDoorGKE
import Derived.Test.YticehedkalheiaaGreatDoorGKC
import Derived.Test.YticehedkalheiaaGreatDoorGB
import Derived.Test.YticehedkalheiaaGreatDoorGIB
import Derived.Test.YticehedkalheiaaGreatDoorGJA
import Derived.Test.YticehedkalheiaaGreatDoorGJB
import Derived.Test.YticehedkalheiaaGreatDoorGK
import Derived.Test.YticehedkalheiaaGreatDoorGQ
import Derived.Test.YticehedkalheiaaGreatDoorGMC
import Derived.Test.YticehedkalheiaaGreatDoorGP
import Derived.Test.YticehedkalheiaaGreatDoorGP1
import Derived.Test.YticehedkalheiaaGreatDoorGP2
import Derived.Test.YticehedkalheiaaGreatDoorGP3
import Derived.Test.YticehedkalheiaaGreatDoorGP5
import Derived.Test.YticehedkalheiaaGreatDoorGS
import Derived.Test.YticehedkalheiaaGreatDoorGC
set_option linter.unusedVariables false
set_option linter.unusedSimpArgs false
set_option linter.unnecessarySimpa false
section
namespace Go.Proofs.YticehedkalheiaaGreatDoor.Zg
open Go.RowKit
structure D4 (w : TW) (a b c d : Sl) (A B C D : Nat) : Prop where
  a : Dr w a A
  b : Dr w b B
  c : Dr w c C
  d : Dr w d D
/-- The same, one's own. -/
structure Q4 (w : TW) (H : Nat) (a b c d : Sl) (A B C D : Nat) : Prop where
  a : Dn w H a A
  b : Dn w H b B
  c : Dn w H c C
  d : Dn w H d D
def Z4 (n A B C D : Nat) : Prop := dz A ≤ n ∧ dz B ≤ n ∧ dz C ≤ n ∧ dz D ≤ n
section
variable {w w' : TW} {a b c d : Sl} {A B C D : Nat}
theorem D4.ext (h : D4 w a b c d A B C D) (e : Ext none_ w w') : D4 w' a b c d A B C D := ⟨h.a.ext e, h.b.ext e, h.c.ext e, h.d.ext e⟩
theorem D4.extT {t : Nat} (h : D4 w a b c d A B C D) (hT : Tz w t) (e : Xt1 t w w') : D4 w' a b c d A B C D := ⟨h.a.extT hT e, h.b.extT hT e, h.c.extT hT e, h.d.extT hT e⟩
theorem D4.here (h : D4 w a b c d A B C D) : D4 w.here a b c d A B C D := ⟨h.a.here, h.b.here, h.c.here, h.d.here⟩
theorem D4.drew (h : D4 w a b c d A B C D) : D4 w.drew a b c d A B C D := ⟨Rd.drew h.a, Rd.drew h.b, Rd.drew h.c, Rd.drew h.d⟩
theorem D4.at {k : Nat} (h : D4 w a b c d A B C D) : D4 (w.at k) a b c d A B C D := ⟨Rd.at_ h.a, Rd.at_ h.b, Rd.at_ h.c, Rd.at_ h.d⟩
theorem Q4.d4 {H : Nat} (h : Q4 w H a b c d A B C D) : D4 w a b c d A B C D := ⟨h.a.dr, h.b.dr, h.c.dr, h.d.dr⟩
theorem Q4.ext {H : Nat} (h : Q4 w H a b c d A B C D) (e : Ext none_ w w') : Q4 w' H a b c d A B C D := ⟨h.a.ext e, h.b.ext e, h.c.ext e, h.d.ext e⟩
theorem Q4.less {H H' : Nat} (h : Q4 w H a b c d A B C D) (e : H' ≤ H) : Q4 w H' a b c d A B C D := ⟨h.a.less e, h.b.less e, h.c.less e, h.d.less e⟩
theorem Q4.at {k H : Nat} (h : Q4 w H a b c d A B C D) : Q4 (w.at k) H a b c d A B C D := ⟨h.a.at, h.b.at, h.c.at, h.d.at⟩
theorem r17_Unit {w : TW} : Ct Pg F.zigguratref17_Unit [] w none_ M4 fun (a b c d : Sl) w' => Q4 w' w.w.heap.size a b c d 1 0 0 1 := by
  refine Ct.zigguratref17_Unit ?_
  unfold Sh.zigguratref17_Unit
  intro w1 e1
  refine c1 (ref_Small (y := 1) (by decide)) fun s w2 e2 h2 => ?_
  intro w3 e3
  have h := (h2.ext e3).less e1.size
  exact ⟨(_, Sl.nil, Sl.nil, _, ()), rfl, (e1.trans e2).trans e3, ⟨h.at, Dn.nil _ _, Dn.nil _ _, h.at⟩⟩
theorem r17_both {x y z u : Nat} (ha : Dr w a x) (hb : Dr w b y) (hc : Dr w c z) (hd : Dr w d u) (hx : dz x ≤ 1048576) (hy : dz y ≤ 1048576) (hz : dz z ≤ 1048576) (hu : dz u ≤ 1048576) : Ct Pg F.zigguratref17_both [a.v, b.v, c.v, d.v] w none_ [.one .slice] fun (s : Sl) w' => Dn w' w.w.heap.size s (x * y + z * u) := by
  refine Ct.zigguratref17_both ?_
  unfold Sh.zigguratref17_both
  have k1 := dz_mul x y
  have k2 := dz_mul z u
  refine c1 (ref_Mul ha.here hb.here (by omega) (by omega)) fun s w1 e1 h1 => ?_
  refine c1 (ref_Mul (hc.here.ext e1) (hd.here.ext e1) (by omega) (by omega)) fun s1 w2 e2 h2 => ?_
  refine c1 (ref_Add (h1.dr.ext e2) h2.dr (by omega) (by omega)) fun s2 w3 e3 h3 => ?_
  exact rt1 (c := .slice) _ ((e1.trans e2).trans e3) (h3.less (e1.trans e2).size).at
theorem r17_Times {a' b' c' d' : Sl} {A' B' C' D' : Nat} (h : D4 w a b c d A B C D) (h' : D4 w a' b' c' d' A' B' C' D') (z : Z4 1048576 A B C D) (z' : Z4 1048576 A' B' C' D') :
    Ct Pg F.zigguratref17_Times [.agg #[a.v, b.v, c.v, d.v], .agg #[a'.v, b'.v, c'.v, d'.v]] w none_ M4 fun (s0 s1 s2 s3 : Sl) w' => Q4 w' w.w.heap.size s0 s1 s2 s3 (A * A' + B * C') (A * B' + B * D') (C * A' + D * C') (C * B' + D * D') := by
  obtain ⟨z1, z2, z3, z4⟩ := z
  obtain ⟨y1, y2, y3, y4⟩ := z'
  refine Ct.zigguratref17_Times ?_
  unfold Sh.zigguratref17_Times
  intro w1 e1 w2 e2 w3 e3
  have e13 := ((e1.trans e2).trans e3).drew
  have h := h.here.ext e13
  have h' := h'.here.ext e13
  refine c1 (r17_both h.a h'.a h.b h'.c z1 y1 z2 y3) fun s w4 e4 g4 => ?_
  have h := h.ext e4
  have h' := h'.ext e4
  refine c1 (r17_both h.a h'.b h.b h'.d z1 y2 z2 y4) fun s1 w5 e5 g5 => ?_
  have h := h.ext e5
  have h' := h'.ext e5
  refine c1 (r17_both h.c h'.a h.d h'.c z3 y1 z4 y3) fun s2 w6 e6 g6 => ?_
  have h := h.ext e6
  have h' := h'.ext e6
  refine c1 (r17_both h.c h'.b h.d h'.d z3 y2 z4 y4) fun s3 w7 e7 g7 => ?_
  intro w8 e8
  have e78 := e7.trans e8
  exact ⟨(_, _, _, _, ()), rfl, (((e13.trans e4).trans e5).trans e6).trans e78, (Q4.at ⟨(g4.ext ((e5.trans e6).trans e78)).less e13.size, (g5.ext (e6.trans e78)).less (e13.trans e4).size, (g6.ext e78).less ((e13.trans e4).trans e5).size, (g7.ext e8).less (((e13.trans e4).trans e5).trans e6).size⟩)⟩
theorem r17_Apply {xs ys : Sl} {x y : Nat} (h : D4 w a b c d A B C D) (hx : Dr w xs x) (hy : Dr w ys y) (z : Z4 1048576 A B C D) (zx : dz x ≤ 1048576) (zy : dz y ≤ 1048576) :
    Ct Pg F.zigguratref17_Apply [.agg #[a.v, b.v, c.v, d.v], xs.v, ys.v] w none_ [.one .slice, .one .slice] fun (s u : Sl) w' => Dr w' s (A * x + B * y) ∧ Dr w' u (C * x + D * y) := by
  obtain ⟨z1, z2, z3, z4⟩ := z
  refine Ct.zigguratref17_Apply ?_
  unfold Sh.zigguratref17_Apply
  intro w1 e1
  have e1 := e1.drew
  have h := h.here.ext e1
  have hx := hx.here.ext e1
  have hy := hy.here.ext e1
  have k1 := dz_mul A x
  have k2 := dz_mul B y
  have k3 := dz_mul C x
  have k4 := dz_mul D y
  refine c1 (ref_Mul h.a hx (by omega) (by omega)) fun s w2 e2 g2 => ?_
  refine c1 (ref_Mul (h.b.ext e2) (hy.ext e2) (by omega) (by omega)) fun s1 w3 e3 g3 => ?_
  refine c1 (ref_Add (g2.dr.ext e3) g3.dr (by omega) (by omega)) fun s2 w4 e4 g4 => ?_
  have e24 := (e2.trans e3).trans e4
  refine c1 (ref_Mul (h.c.ext e24) (hx.ext e24) (by omega) (by omega)) fun s3 w5 e5 g5 => ?_
  have e25 := e24.trans e5
  refine c1 (ref_Mul (h.d.ext e25) (hy.ext e25) (by omega) (by omega)) fun s4 w6 e6 g6 => ?_
  refine c1 (ref_Add (g5.dr.ext e6) g6.dr (by omega) (by omega)) fun s5 w7 e7 g7 => ?_
  exact rt2 (c := .slice) (d := .slice) _ _ ((e1.trans e25).trans (e6.trans e7)) ⟨Rd.at_ (g4.dr.ext ((e5.trans e6).trans e7)), Rd.at_ g7.dr⟩
theorem r17_FromM (h : N4 w a b c d A B C D) (ha : a.n ≤ 1048576) (hb : b.n ≤ 1048576) (hc : c.n ≤ 1048576) (hd : d.n ≤ 1048576) : Ct Pg F.zigguratref17_FromM [.agg #[a.v, b.v, c.v, d.v]] w none_ M4 fun (a b c d : Sl) w' => D4 w' a b c d A B C D := by
  refine Ct.zigguratref17_FromM ?_
  unfold Sh.zigguratref17_FromM
  intro w1 e1 w2 e2
  have e12 := (e1.trans e2).drew
  have h := h.here.ext e12
  refine c1 (ref_From h.a (by omega)) fun s w3 e3 h3 => ?_
  refine c1 (ref_From (h.b.ext e3) (by omega)) fun s1 w4 e4 h4 => ?_
  refine c1 (ref_From (h.c.ext (e3.trans e4)) (by omega)) fun s2 w5 e5 h5 => ?_
  refine c1 (ref_From (h.d.ext ((e3.trans e4).trans e5)) (by omega)) fun s3 w6 e6 h6 => ?_
  intro w7 e7
  exact ⟨(_, _, _, _, ()), rfl, (((e12.trans e3).trans e4).trans e5).trans (e6.trans e7), D4.at ⟨h3.dr.ext ((e4.trans e5).trans (e6.trans e7)), h4.dr.ext (e5.trans (e6.trans e7)), h5.dr.ext (e6.trans e7), h6.dr.ext e7⟩⟩
theorem r17_SameM {H : Nat} {a' b' c' d' : Sl} (h : D4 w a b c d A B C D) (h' : O4 w H a' b' c' d' A B C D) (z : Z4 1048576 A B C D) : Ct Pg F.zigguratref17_SameM [.agg #[a.v, b.v, c.v, d.v], .agg #[a'.v, b'.v, c'.v, d'.v]] w none_ [.one .bool] fun (r : Bool) _ => r = true := by
  obtain ⟨z1, z2, z3, z4⟩ := z
  refine Ct.zigguratref17_SameM ?_
  unfold Sh.zigguratref17_SameM
  intro w1 e1 w2 e2
  have e12 := e1.trans e2
  have h := h.here.ext e12
  have h' : O4 w2 H a' b' c' d' A B C D := O4.ext ⟨Ow.here h'.a, Ow.here h'.b, Ow.here h'.c, Ow.here h'.d⟩ e12
  refine j1 (fun (b : Bool) w' => b = true ∧ Ext none_ w2 w') ?_ ?_
  · refine sm h.a h'.a (by omega) rfl fun w3 e3 => cnd_t rfl ?_
    refine sm (h.ext e3).b (h'.ext e3).b (by omega) rfl fun w4 e4 => cnd_t rfl ?_
    have e34 := e3.trans e4
    refine sm (h.ext e34).c (h'.ext e34).c (by omega) rfl fun w5 e5 => cnd_t rfl ?_
    have e35 := e34.trans e5
    exact sm (h.ext e35).d (h'.ext e35).d (by omega) rfl fun w6 e6 => ⟨rfl, e35.trans e6⟩
  rintro r w7 ⟨rfl, e7⟩
  exact rt1 (c := .bool) true (e12.trans e7) rfl
end
theorem Z4.le {n m A B C D : Nat} (h : Z4 n A B C D) (hn : n ≤ m) : Z4 m A B C D := ⟨Nat.le_trans h.1 hn, Nat.le_trans h.2.1 hn, Nat.le_trans h.2.2.1 hn, Nat.le_trans h.2.2.2 hn⟩
end Go.Proofs.YticehedkalheiaaGreatDoor.Zg
end

section
namespace Go.Proofs.YticehedkalheiaaGreatDoor.Zg
open Go.RowKit
theorem len13 {bs : List Nat} (h : bs.length = 13) : ∃ hg g po nu ra ro dv rc c m d k e, bs = [hg, g, po, nu, ra, ro, dv, rc, c, m, d, k, e] := by
  match bs, h with
  | [hg, g, po, nu, ra, ro, dv, rc, c, m, d, k, e], _ => exact ⟨hg, g, po, nu, ra, ro, dv, rc, c, m, d, k, e, rfl⟩
theorem hgcd_mk {w : TW} {t : HL I11} (hG : Gl w) {K : Option Addr → TW → Prop} (hK : ∀ p w' hg g po nu ra ro dv rc c m d k e b tab, Ext none_ w w' → Eg w' p [hg, g, po, nu, ra, ro, dv, rc, c, m, d, k, e] b 0 tab → w.w.heap.size ≤ b → p.isNone = false → K p w') : cl Pg F.hgcd_New [.agg (encs I11 t).toArray] w [.one .ptr] K := by
  refine hgcd_NewN.mk hG (fun p w' bs b tab e hl hE hb hp => ?_) (by decide)
  obtain ⟨hg, g, po, nu, ra, ro, dv, rc, c, m, d, k, e', rfl⟩ := len13 hl
  exact hK p w' _ _ _ _ _ _ _ _ _ _ _ _ _ b tab e hE hb hp
theorem law21_from {w : TW} {s : Sl} {l : List Nat} (hs : Rd w s l) (hn : l.length ≤ 1048576) : Ct Pg F.zigguratlaw21_from [s.v] w none_ [.one .slice] fun (s' : Sl) w' => Dn w' w.w.heap.size s' (vl W64 l) := by
  refine Ct.zigguratlaw21_from ?_
  unfold Sh.zigguratlaw21_from
  have := hs.len
  refine c1 (ref_From hs.here.nt (by omega)) ?_
  intro s' w' e h
  exact rt1 (c := .slice) _ e h.at
/-- keep.Int of one number twice. -/
theorem same_i {w : TW} {s u : Sl} {B C : Nat} {n m : Bool} {z : Int} (hs : Io w B s n z) (hu : Io w C u m z) {K : Bool → TW → Prop} (hK : ∀ w', Ext none_ w w' → K true w') : cl Pg F.zigguratkeep_Int [.agg #[s.v, .bool n], .agg #[u.v, .bool m]] w [.one .bool] K := by
  refine c1 (keep_Int hs.1 hu.1 rfl (hs.2.trans hu.2.symm)) ?_
  rintro r w' e rfl
  exact hK w' e
theorem xg64 : Xg 6 4 2 1 (-1) := by
  have h1 := (Eu.zero (a := 6) (b := 4)).step (by decide)
  have h2 := h1.step (by decide)
  exact .inr ⟨by decide, 2, 3, 1, 2, 1, h2, rfl, rfl⟩
theorem law21_wakes {w : TW} (hG : Gl w) : Ct Pg F.zigguratlaw21_wakes [] w none_ [.one .bool] fun (r : Bool) _ => r = true := by
  refine Ct.zigguratlaw21_wakes ?_
  unfold Sh.zigguratlaw21_wakes
  refine hgcd_mk (t := ((0 : Int), (0 : Int), (0 : Int), (0 : Int), (0 : Int), (0 : Int), (0 : Int), (0 : Int), (0 : Int), (0 : Int), (0 : Int), ())) hG.here fun p w1 hg g po nu ra ro dv rc c m d k e t tab e1 hE ht hp => ?_
  refine cnd_f (by rw [hp]) ?_
  have l1 : ∀ x, x < W64 → sz x ≤ 4096 := fun x hx => Nat.le_trans (sz_word hx) (by decide)
  refine nw_u64 (x := 6) rfl (by decide) fun b w2 h2 e2 => nw_u64 (x := 4) rfl (by decide) fun b1 w3 h3 e3 => ?_
  have e13 := e2.trans e3
  have hE3 := hE.ext e13
  refine tM hE3.tz (hgcd_Xgcd (a := ⟨some ⟨b, 0, none⟩, 1, 1⟩) (b := ⟨some ⟨b1, 0, none⟩, 1, 1⟩) (x := 6) (y := 4) hE3 (h2.ext e3).rd.nt h3.rd.nt (l1 6 (by decide)) (l1 4 (by decide)) (by decide) (by decide)) ?_
  rintro s r r1 r2 r3 w4 x4 ⟨⟨G, X, Y, hX, hs, hx, hy⟩, hE4⟩
  obtain ⟨rfl, rfl, rfl⟩ := hX.uniq xg64
  intro w5 e5 w6 e6 w7 e7 w8 e8
  have e48 := ((e5.trans e6).trans e7).trans e8
  refine j1 (fun (b : Bool) w' => b = true ∧ Ext none_ w4 w') ?_ ?_
  · have ed : Ext none_ w4 w8.drew := e48.drew
    refine nw_u64 (x := 2) rfl (by decide) fun b2 w9 h9 e9 => ?_
    have e49 := ed.trans e9
    refine same_w (x := 2) (On.ext hs e49) (by decide) (by decide) h9 fun w10 e10 => cnd_t rfl ?_
    have e410 := e49.trans e10
    refine cl0 (num_Of (n := 1) (by decide) (by decide)) ?_
    rintro r4 r5 w11 e11 h11
    have e411 := e410.trans e11
    refine same_i (hx.ext e411) h11 fun w12 e12 => cnd_t rfl ?_
    have e412 := e411.trans e12
    refine cl0 (num_Of (n := -1) (by decide) (by decide)) ?_
    rintro r6 r7 w13 e13' h13
    have e413 := e412.trans e13'
    refine same_i (hy.ext e413) h13 fun w14 e14 => cnd_t rfl ?_
    refine cl0 r17_Unit ?_
    rintro u0 u1 u2 u3 w15 e15 hU
    refine cl0 hgcd_Unit ?_
    rintro v0 v1 v2 v3 w16 e16 hV
    have d1 : dz 1 ≤ 1 := dz_pow (by decide)
    have d0 : dz 0 = 0 := dz_zero.2 rfl
    refine c1 (r17_SameM (hU.ext e16).d4 hV ⟨by omega, by omega, by omega, by omega⟩) ?_
    rintro r w17 e17 rfl
    exact ⟨rfl, (e413.trans e14).trans ((e15.trans e16).trans e17)⟩
  rintro b w18 ⟨rfl, e18⟩
  exact rt1 (c := .bool) true (e1.own ((e13.any.trans x4).trans e18.any) fun c hc => by subst hc; exact ht) rfl
theorem wk21 {w : TW} (hG : Gl w) {K : Bool → TW → Prop} (hK : ∀ w', Ext none_ w w' → K true w') : cl Pg F.zigguratlaw21_wakes [] w [.one .bool] K := by
  refine c1 (law21_wakes hG) ?_
  rintro r w' e rfl
  exact hK w' e
end Go.Proofs.YticehedkalheiaaGreatDoor.Zg
end
