/- A part of the proofs of this seat's laws: words, lemmas or contracts of its functions. -/
import Derived.Test.YticehedkalheiaaGreatDoorGHA
import Derived.Test.YticehedkalheiaaGreatDoorGIA
import Derived.Test.YticehedkalheiaaGreatDoorGJC
import Derived.Test.YticehedkalheiaaGreatDoorGP4
set_option linter.unusedVariables false
set_option linter.unusedSimpArgs false
set_option linter.unnecessarySimpa false
section
namespace Go.Proofs.YticehedkalheiaaGreatDoor.Zg
open Go.RowKit
structure D4 (w : TW) (a b c d : Sl) (A B C D : Nat) : Prop where
  a : Dr w a A
  b : Dr w b B
  c : Dr w c C
  d : Dr w d D
/-- The same, one's own. -/
structure Q4 (w : TW) (H : Nat) (a b c d : Sl) (A B C D : Nat) : Prop where
  a : Dn w H a A
  b : Dn w H b B
  c : Dn w H c C
  d : Dn w H d D
def Z4 (n A B C D : Nat) : Prop := dz A ≤ n ∧ dz B ≤ n ∧ dz C ≤ n ∧ dz D ≤ n
section
variable {w w' : TW} {a b c d : Sl} {A B C D : Nat}
theorem D4.ext (h : D4 w a b c d A B C D) (e : Ext none_ w w') : D4 w' a b c d A B C D := ⟨h.a.ext e, h.b.ext e, h.c.ext e, h.d.ext e⟩
theorem D4.here (h : D4 w a b c d A B C D) : D4 w.here a b c d A B C D := ⟨h.a.here, h.b.here, h.c.here, h.d.here⟩
theorem D4.at {k : Nat} (h : D4 w a b c d A B C D) : D4 (w.at k) a b c d A B C D := ⟨Rd.at_ h.a, Rd.at_ h.b, Rd.at_ h.c, Rd.at_ h.d⟩
theorem Q4.d4 {H : Nat} (h : Q4 w H a b c d A B C D) : D4 w a b c d A B C D := ⟨h.a.dr, h.b.dr, h.c.dr, h.d.dr⟩
theorem Q4.ext {H : Nat} (h : Q4 w H a b c d A B C D) (e : Ext none_ w w') : Q4 w' H a b c d A B C D := ⟨h.a.ext e, h.b.ext e, h.c.ext e, h.d.ext e⟩
theorem Q4.at {k H : Nat} (h : Q4 w H a b c d A B C D) : Q4 (w.at k) H a b c d A B C D := ⟨h.a.at, h.b.at, h.c.at, h.d.at⟩
theorem r17_Unit {w : TW} : Ct Pg F.zigguratref17_Unit [] w none_ M4 fun (a b c d : Sl) w' => Q4 w' w.w.heap.size a b c d 1 0 0 1 := by
  refine Ct.zigguratref17_Unit ?_
  unfold Sh.zigguratref17_Unit
  intro w1 e1
  refine c1 (ref_Small (y := 1) (by decide)) fun s w2 e2 h2 => ?_
  intro w3 e3
  have h := (h2.ext e3).less e1.size
  exact ⟨(_, Sl.nil, Sl.nil, _, ()), rfl, (e1.trans e2).trans e3, ⟨h.at, Dn.nil _ _, Dn.nil _ _, h.at⟩⟩
theorem r17_both {x y z u : Nat} (ha : Dr w a x) (hb : Dr w b y) (hc : Dr w c z) (hd : Dr w d u) (hx : dz x ≤ 1048576) (hy : dz y ≤ 1048576) (hz : dz z ≤ 1048576) (hu : dz u ≤ 1048576) : Ct Pg F.zigguratref17_both [a.v, b.v, c.v, d.v] w none_ [.one .slice] fun (s : Sl) w' => Dn w' w.w.heap.size s (x * y + z * u) := by
  refine Ct.zigguratref17_both ?_
  unfold Sh.zigguratref17_both
  have k1 := dz_mul x y
  have k2 := dz_mul z u
  refine c1 (ref_Mul ha.here hb.here (by omega) (by omega)) fun s w1 e1 h1 => ?_
  refine c1 (ref_Mul (hc.here.ext e1) (hd.here.ext e1) (by omega) (by omega)) fun s1 w2 e2 h2 => ?_
  refine c1 (ref_Add (h1.dr.ext e2) h2.dr (by omega) (by omega)) fun s2 w3 e3 h3 => ?_
  exact rt1 (c := .slice) _ ((e1.trans e2).trans e3) (h3.less (e1.trans e2).size).at
theorem r17_Times {a' b' c' d' : Sl} {A' B' C' D' : Nat} (h : D4 w a b c d A B C D) (h' : D4 w a' b' c' d' A' B' C' D') (z : Z4 1048576 A B C D) (z' : Z4 1048576 A' B' C' D') :
    Ct Pg F.zigguratref17_Times [.agg #[a.v, b.v, c.v, d.v], .agg #[a'.v, b'.v, c'.v, d'.v]] w none_ M4 fun (s0 s1 s2 s3 : Sl) w' => Q4 w' w.w.heap.size s0 s1 s2 s3 (A * A' + B * C') (A * B' + B * D') (C * A' + D * C') (C * B' + D * D') := by
  obtain ⟨z1, z2, z3, z4⟩ := z
  obtain ⟨y1, y2, y3, y4⟩ := z'
  refine Ct.zigguratref17_Times ?_
  unfold Sh.zigguratref17_Times
  intro w1 e1 w2 e2 w3 e3
  have e13 := ((e1.trans e2).trans e3).drew
  have h := h.here.ext e13
  have h' := h'.here.ext e13
  refine c1 (r17_both h.a h'.a h.b h'.c z1 y1 z2 y3) fun s w4 e4 g4 => ?_
  have h := h.ext e4
  have h' := h'.ext e4
  refine c1 (r17_both h.a h'.b h.b h'.d z1 y2 z2 y4) fun s1 w5 e5 g5 => ?_
  have h := h.ext e5
  have h' := h'.ext e5
  refine c1 (r17_both h.c h'.a h.d h'.c z3 y1 z4 y3) fun s2 w6 e6 g6 => ?_
  have h := h.ext e6
  have h' := h'.ext e6
  refine c1 (r17_both h.c h'.b h.d h'.d z3 y2 z4 y4) fun s3 w7 e7 g7 => ?_
  intro w8 e8
  have e78 := e7.trans e8
  exact ⟨(_, _, _, _, ()), rfl, (((e13.trans e4).trans e5).trans e6).trans e78, (Q4.at ⟨(g4.ext ((e5.trans e6).trans e78)).less e13.size, (g5.ext (e6.trans e78)).less (e13.trans e4).size, (g6.ext e78).less ((e13.trans e4).trans e5).size, (g7.ext e8).less (((e13.trans e4).trans e5).trans e6).size⟩)⟩
theorem r17_SameM {H : Nat} {a' b' c' d' : Sl} (h : D4 w a b c d A B C D) (h' : O4 w H a' b' c' d' A B C D) (z : Z4 1048576 A B C D) : Ct Pg F.zigguratref17_SameM [.agg #[a.v, b.v, c.v, d.v], .agg #[a'.v, b'.v, c'.v, d'.v]] w none_ [.one .bool] fun (r : Bool) _ => r = true := by
  obtain ⟨z1, z2, z3, z4⟩ := z
  refine Ct.zigguratref17_SameM ?_
  unfold Sh.zigguratref17_SameM
  intro w1 e1 w2 e2
  have e12 := e1.trans e2
  have h := h.here.ext e12
  have h' : O4 w2 H a' b' c' d' A B C D := O4.ext ⟨Ow.here h'.a, Ow.here h'.b, Ow.here h'.c, Ow.here h'.d⟩ e12
  refine j1 (fun (b : Bool) w' => b = true ∧ Ext none_ w2 w') ?_ ?_
  · refine sm h.a h'.a (by omega) rfl fun w3 e3 => cnd_t rfl ?_
    refine sm (h.ext e3).b (h'.ext e3).b (by omega) rfl fun w4 e4 => cnd_t rfl ?_
    have e34 := e3.trans e4
    refine sm (h.ext e34).c (h'.ext e34).c (by omega) rfl fun w5 e5 => cnd_t rfl ?_
    have e35 := e34.trans e5
    exact sm (h.ext e35).d (h'.ext e35).d (by omega) rfl fun w6 e6 => ⟨rfl, e35.trans e6⟩
  rintro r w7 ⟨rfl, e7⟩
  exact rt1 (c := .bool) true (e12.trans e7) rfl
end
theorem Eu.z4 {x y N A B C D c d n : Nat} (h : Eu x y N A B C D c d) (hx : dz x ≤ n) (hy : dz y ≤ n) (hn : 1 ≤ n) : Z4 n A B C D ∧ dz c ≤ n ∧ dz d ≤ n := by
  obtain ⟨h1, h2, h3, h4, h5, h6⟩ := h.small
  have d1 : dz 1 ≤ 1 := dz_pow (by decide)
  have k1 : dz (max 1 x) ≤ n := by
    rcases Nat.le_total 1 x with h | h
    · rwa [Nat.max_eq_right h]
    · rw [Nat.max_eq_left h]; omega
  have k2 : dz (max 1 y) ≤ n := by
    rcases Nat.le_total 1 y with h | h
    · rwa [Nat.max_eq_right h]
    · rw [Nat.max_eq_left h]; omega
  have k3 : dz (max x y) ≤ n := by
    rcases Nat.le_total x y with h | h
    · rwa [Nat.max_eq_right h]
    · rwa [Nat.max_eq_left h]
  exact ⟨⟨Nat.le_trans (dz_mono h1) k1, Nat.le_trans (dz_mono h2) k1, Nat.le_trans (dz_mono h3) k2, Nat.le_trans (dz_mono h4) k2⟩, Nat.le_trans (dz_mono h5) k3, Nat.le_trans (dz_mono h6) hy⟩
theorem Z4.le {n m A B C D : Nat} (h : Z4 n A B C D) (hn : n ≤ m) : Z4 m A B C D := ⟨Nat.le_trans h.1 hn, Nat.le_trans h.2.1 hn, Nat.le_trans h.2.2.1 hn, Nat.le_trans h.2.2.2 hn⟩
theorem bl_dz (x : Nat) : bl x ≤ 32 * dz x := bl_pow (Nat.lt_of_lt_of_le (dz_lt x) (by rw [show B32 = 2 ^ 32 from rfl, ← Nat.pow_mul]; exact Nat.le_refl _))
theorem r17_Steps {w : TW} {a b : Sl} {x y : Nat} {K : Int} (ha : Dr w a x) (hb : Dr w b y) (hx : dz x ≤ 8192) (hy : dz y ≤ 8192) :
    Ct Pg F.zigguratref17_Steps [a.v, b.v, .int .i64 K] w none_ R7 fun (m0 m1 m2 m3 cs ds : Sl) (n : Int) w' => ∃ N A B C D cc dd : Nat, n = N ∧ St x y K.toNat N A B C D cc dd ∧ D4 w' m0 m1 m2 m3 A B C D ∧ Dr w' cs cc ∧ Dr w' ds dd := by
  refine Ct.zigguratref17_Steps ?_
  unfold Sh.zigguratref17_Steps
  intro w1 e1
  refine cl0 r17_Unit ?_
  rintro r r1 r2 r3 w2 e2 hU
  intro w3 e3 w4 e4
  refine c1 (ref_Small (y := 1) (by decide)) fun s w5 e5 h5 => ?_
  have e25 := (e3.trans e4).trans e5
  have e15 := (e1.trans e2).trans e25
  have hU := (hU.ext e25).d4
  have ha := ha.here.ext e15
  have hb := hb.here.ext e15
  have d1 : dz 1 ≤ 1 := dz_pow (by decide)
  have d0 : dz 0 = 0 := dz_zero.2 rfl
  obtain ⟨Kn, hKn⟩ : ∃ Kn, K.toNat = Kn := ⟨_, rfl⟩
  rw [hKn]
  have hmax : (if (0 : Int) > K then 0 else K) = (Kn : Int) := by split <;> omega
  refine ⟨fun (cs ds : Sl) (n : Int) (_ _ _ _ : Sl) (m0 m1 m2 m3 : Sl) w11 => (∃ N A B C D cc dd : Nat, n = N ∧ St x y Kn N A B C D cc dd ∧ D4 w11 m0 m1 m2 m3 A B C D ∧ Dr w11 cs cc ∧ Dr w11 ds dd) ∧ Ext none_ w5 w11, ?_, ?_⟩
  · refine ⟨fun (M : Nat) (cs ds : Sl) (n : Int) (_ _ _ _ : Sl) (m0 m1 m2 m3 : Sl) w6 => ∃ N A B C D cc dd : Nat, n = N ∧ M = dd ∧ Eu x y N A B C D cc dd ∧ (N = 0 ∨ ¬ bl cc ≤ Kn) ∧ D4 w6 m0 m1 m2 m3 A B C D ∧ Dr w6 cs cc ∧ Dr w6 ds dd ∧ Ext none_ w5 w6, ⟨y, 0, 1, 0, 0, 1, x, y, rfl, rfl, .zero, .inl rfl, hU, ha, hb, Ext.refl _ _⟩, ?_⟩
    clear ha hb hU
    rintro M cs ds n _ _ _ _ m0 m1 m2 m3 w6 ⟨N, A, B, C, D, cc, dd, rfl, rfl, hEu, hN, hM, hc, hd, e6⟩
    obtain ⟨hZ, zc, zd⟩ := hEu.z4 hx hy (by decide)
    have hcount := hEu.count
    have hby := bl_dz y
    refine c1 (ref_Bits' hd (by omega)) ?_
    rintro _ w7 e7 rfl
    refine bnd_eq hmax ?_
    have hM := hM.ext e7
    have hc := hc.ext e7
    have hd := hd.ext e7
    have e57 := e6.trans e7
    refine cnd_d (fun hk => ?_) (fun hk => ?_)
    · have hk : ¬ bl M ≤ Kn := by
        have : (bl M : Int) > Kn := hk
        omega
      have hM0 : 0 < M := by
        rcases Nat.eq_zero_or_pos M with h | h
        · subst h; rw [bl_zero] at hk; omega
        · exact h
      refine c2 (ref_DivMod hc hd hM0 (by omega) (by omega)) ?_
      rintro s1 s2 w8 e8 ⟨h1, h2⟩
      have zq : dz (cc / M) ≤ dz cc := dz_div
      have h58 := h5.dr.ext (e57.trans e8)
      refine cl0 (r17_Times (hM.ext e8) (a' := s1) (b' := s) (c' := s) (d' := Sl.nil) (A' := cc / M) (B' := 1) (C' := 1) (D' := 0) ⟨h1, h58, h58, Dr.nil _⟩ (hZ.le (by decide)) ⟨by omega, by omega, by omega, by omega⟩) ?_
      rintro r5 r6 r7 r8 w9 e9 hT
      rw [Nat.mul_one, Nat.mul_one, Nat.mul_zero, Nat.add_zero, Nat.mul_one, Nat.mul_one, Nat.mul_zero, Nat.add_zero] at hT
      have hstep := hEu.step hM0
      have hcount' := hstep.count
      intro w10 e10
      refine bnd_eq (y := ((N + 1 : Nat) : Int)) (by show wi ((N : Int) + 1) = _; rw [wi_id (by omega) (by omega)]; omega) ?_
      have e910 := e9.trans e10
      exact ⟨cc % M, Nat.mod_lt _ hM0, N + 1, _, _, _, _, M, cc % M, rfl, rfl, hstep, .inr hk, (hT.ext e10).d4, (hd.ext e8).ext e910, h2.ext e910, (e57.trans e8).trans e910⟩
    · have hk : bl M ≤ Kn := by
        have : ¬ (bl M : Int) > Kn := hk
        omega
      exact ⟨⟨N, A, B, C, D, cc, M, rfl, ⟨hEu, hk, hN⟩, hM, hc, hd⟩, e57⟩
  rintro cs ds n _ _ _ _ m0 m1 m2 m3 w11 ⟨⟨N, A, B, C, D, cc, dd, rfl, hSt, hM, hc, hd⟩, e11⟩
  intro w12 e12
  exact ⟨(_, _, _, _, _, _, _, ()), rfl, (e15.trans e11).trans e12, N, A, B, C, D, cc, dd, rfl, hSt, (hM.ext e12).at, Rd.at_ (hc.ext e12), Rd.at_ (hd.ext e12)⟩
end Go.Proofs.YticehedkalheiaaGreatDoor.Zg
end

section
namespace Go.Proofs.YticehedkalheiaaGreatDoor.Zg
open Go.RowKit
set_option maxHeartbeats 800000 in
theorem r17_Xgcd {w : TW} {a b : Sl} {x y : Nat} (ha : Dr w a x) (hb : Dr w b y) (hx : dz x ≤ 8192) (hy : dz y ≤ 8192) :
    Ct Pg F.zigguratref17_Xgcd [a.v, b.v] w none_ R5x fun (s xs : Sl) (xn : Bool) (ys : Sl) (yn : Bool) w' => ∃ G X Y, Xg x y G X Y ∧ Dr w' s G ∧ Zr w' xs xn X ∧ Zr w' ys yn Y := by
  refine Ct.zigguratref17_Xgcd ?_
  unfold Sh.zigguratref17_Xgcd
  intro w1 e1 w2 e2
  have e12 := e1.trans e2
  have ha := ha.here.ext e12
  have hb := hb.here.ext e12
  refine ⟨fun (z : Bool) (x1 : Sl) (x2 : Bool) (x3 : Sl) (x4 : Bool) w5 => z = decide (x = 0 ∧ y = 0) ∧ Ext none_ w2 w5, ?_, ?_⟩
  · refine c1 (ref_Zero ha) ?_
    rintro _ w3 e3 rfl
    refine cnd_d (fun h => ?_) (fun h => ?_)
    · refine c1 (ref_Zero (hb.ext e3)) ?_
      rintro _ w4 e4 rfl
      exact ⟨by rw [Bool.eq_iff_iff, decide_eq_true_iff, decide_eq_true_iff]; exact ⟨fun h' => ⟨h, h'⟩, fun h' => h'.2⟩, e3.trans e4⟩
    · exact ⟨by rw [eq_comm, decide_eq_false_iff_not]; exact fun h' => h h'.1, e3⟩
  rintro z x1 x2 x3 x4 w5 ⟨rfl, e5⟩
  have e15 := e12.trans e5
  have ha := ha.ext e5
  have hb := hb.ext e5
  refine cnd_d (fun h0 => ?_) (fun h0 => ?_)
  · intro w6 e6 w7 e7
    exact ⟨(Sl.nil, Sl.nil, _, Sl.nil, _, ()), rfl, e15.trans (e6.trans e7), 0, 0, 0, .inl ⟨h0.1, h0.2, rfl, rfl, rfl⟩, Dr.nil _, ⟨Dr.nil _, rfl⟩, ⟨Dr.nil _, rfl⟩⟩
  refine cl0 (ref17_Small (n := 1) (by decide) (by decide)) ?_
  rintro r r1 w8 e8 ⟨h8, -⟩
  refine cl0 (ref17_Small (n := 1) (by decide) (by decide)) ?_
  rintro r2 r3 w9 e9 ⟨h9, -⟩
  intro w10 e10 w11 e11 w12 e12' w13 e13 w14 e14 w15 e15' w16 e16 w17 e17
  have e917 := ((((e10.trans e11).trans e12').trans e13).trans e14).trans ((e15'.trans e16).trans e17)
  have e517 := (e8.trans e9).trans e917
  have h8 := h8.ext (e9.trans e917)
  have h9 := h9.ext e917
  have ha := ha.ext e517
  have hb := hb.ext e517
  have e117 := e15.trans e517
  have z0 : ∀ w, Zr w Sl.nil false 0 := fun w => ⟨Dr.nil _, rfl⟩
  clear e917 e517 e10 e11 e12' e13 e14 e15' e16 e17 e8 e9 e12 e5 e1 e2 e15
  refine ⟨fun (s : Sl) (_ : Sl) (_ : Bool) (_ : Sl) (_ : Bool) (xs : Sl) (xn : Bool) (ys : Sl) (yn : Bool) w31 => (∃ G X Y, Xg x y G X Y ∧ Dr w31 s G ∧ Zr w31 xs xn X ∧ Zr w31 ys yn Y) ∧ Ext none_ w17 w31, ?_, ?_⟩
  · refine ⟨fun (M : Nat) (s u : Sl) (_ : Sl) (_ : Bool) (_ : Sl) (_ : Bool) (x0 : Sl) (x0n : Bool) (y0 : Sl) (y0n : Bool) (x1 : Sl) (x1n : Bool) (y1 : Sl) (y1n : Bool) w18 => ∃ N A B C D cc dd : Nat, M = dd ∧ Eu x y N A B C D cc dd ∧ Dr w18 s cc ∧ Dr w18 u dd ∧ Zr w18 x0 x0n (sg N * D) ∧ Zr w18 y0 y0n (-(sg N * B)) ∧ Zr w18 x1 x1n (-(sg N * C)) ∧ Zr w18 y1 y1n (sg N * A) ∧ Ext none_ w17 w18, ⟨y, 0, 1, 0, 0, 1, x, y, rfl, .zero, ha, hb, h8, z0 _, z0 _, h9, Ext.refl _ _⟩, ?_⟩
    clear ha hb h8 h9
    rintro M s u _ _ _ _ x0 x0n y0 y0n x1' x1n y1 y1n w18 ⟨N, A, B, C, D, cc, dd, rfl, hEu, hs, hu, hx0, hy0, hx1, hy1, e18⟩
    obtain ⟨hZ, zc, zd⟩ := hEu.z4 hx hy (by decide)
    obtain ⟨z1, z2, z3, z4⟩ := hZ
    refine c1 (ref_Zero hu) ?_
    rintro _ w19 e19 rfl
    have hs := hs.ext e19
    have hu := hu.ext e19
    have hx0 := hx0.ext e19
    have hy0 := hy0.ext e19
    have hx1 := hx1.ext e19
    have hy1 := hy1.ext e19
    have e1719 := e18.trans e19
    refine cnd_i (fun h => ?_) (fun h => ?_)
    · simp only [Bool.not_eq_true', decide_eq_false_iff_not] at h
      have hM0 : 0 < M := Nat.pos_of_ne_zero h
      refine c2 (ref_DivMod hs hu hM0 (by omega) (by omega)) ?_
      rintro s2 s3 w20 e20 ⟨h2, h3⟩
      have zq : dz (cc / M) ≤ dz cc := dz_div
      have e20d := e20.drew
      refine cl0 (ref17_Nat (Rd.drew h2)) ?_
      rintro r4 r5 w21 e21 h4
      refine cl0 (ref17_Mul h4 (hx1.ext (e20d.trans e21)) (by rw [Int.natAbs_natCast]; omega) (by rw [sg_abs']; omega)) ?_
      rintro r6 r7 w22 e22 ⟨h6, -⟩
      have e2022 := (e20d.trans e21).trans e22
      have k1 : dz ((cc / M : Nat) * -(sg N * (C : Int))).natAbs ≤ 16384 := by
        rw [Int.natAbs_mul, sg_abs', Int.natAbs_natCast]
        have := dz_mul (cc / M) C
        omega
      refine cl0 (ref17_Sub (hx0.ext e2022) h6 (by rw [sg_abs]; omega) (by omega)) ?_
      rintro r8 r9 w23 e23 ⟨h8, -⟩
      rw [sg_next] at h8
      intro w24 e24 w25 e25
      have e2025 := (e2022.trans e23).trans (e24.trans e25)
      have e2025d := e2025.drew
      refine cl0 (ref17_Nat (Rd.drew (h2.ext (((Ext.refl _ _).drew.trans e21).trans (e22.trans (e23.trans (e24.trans e25))))))) ?_
      rintro r10 r11 w26 e26 h10
      refine cl0 (ref17_Mul h10 (hy1.ext (e2025d.trans e26)) (by rw [Int.natAbs_natCast]; omega) (by rw [sg_abs]; omega)) ?_
      rintro r12 r13 w27 e27 ⟨h12, -⟩
      have e2027 := (e2025d.trans e26).trans e27
      have k2 : dz ((cc / M : Nat) * (sg N * (A : Int))).natAbs ≤ 16384 := by
        rw [Int.natAbs_mul, sg_abs, Int.natAbs_natCast]
        have := dz_mul (cc / M) A
        omega
      refine cl0 (ref17_Sub (hy0.ext e2027) h12 (by rw [sg_abs']; omega) (by omega)) ?_
      rintro r14 r15 w28 e28 ⟨h14, -⟩
      rw [sg_next'] at h14
      intro w29 e29 w30 e30
      have e2830 := e29.trans e30
      have e2030 := (e2027.trans e28).trans e2830
      have e2330 : Ext none_ w23 w30 := ((e24.trans e25).drew.trans e26).trans ((e27.trans e28).trans e2830)
      have e2030' : Ext none_ w20 w30 := ((Ext.refl _ _).drew.trans e21).trans ((e22.trans e23).trans ((e24.trans e25).drew.trans (e26.trans ((e27.trans e28).trans e2830))))
      refine ⟨cc % M, Nat.mod_lt _ hM0, N + 1, _, _, _, _, M, cc % M, rfl, hEu.step hM0, hu.ext e2030, h3.ext e2030', ?_, ?_, h8.ext e2330, h14.ext e2830, e1719.trans e2030⟩
      · have := hx1.ext e2030
        rw [sg_succ, Int.neg_mul]; exact this
      · have := hy1.ext e2030
        rw [sg_succ, Int.neg_mul, Int.neg_neg]; exact this
    · simp only [Bool.not_eq_false', decide_eq_true_iff] at h
      subst h
      exact ⟨⟨cc, _, _, .inr ⟨h0, N, A, B, C, D, hEu, rfl, rfl⟩, hs, hx0, hy0⟩, e1719⟩
  rintro s _ _ _ _ xs xn ys yn w31 ⟨⟨G, X, Y, hX, hs, hxs, hys⟩, e31⟩
  intro w32 e32 w33 e33
  have ee : Ext none_ w31 w33 := (Ext.refl _ _).drew.trans (e32.trans e33)
  exact ⟨(_, _, _, _, _, ()), rfl, (e117.trans e31).trans ee, G, X, Y, hX, Rd.at_ (hs.ext ee), (hxs.ext ee).at, (hys.ext ee).at⟩
end Go.Proofs.YticehedkalheiaaGreatDoor.Zg
end

section
namespace Go.Proofs.YticehedkalheiaaGreatDoor.Zg
open Go.RowKit
theorem len13 {bs : List Nat} (h : bs.length = 13) : ∃ hg g po nu ra ro dv rc c m d k e, bs = [hg, g, po, nu, ra, ro, dv, rc, c, m, d, k, e] := by
  match bs, h with
  | [hg, g, po, nu, ra, ro, dv, rc, c, m, d, k, e], _ => exact ⟨hg, g, po, nu, ra, ro, dv, rc, c, m, d, k, e, rfl⟩
theorem hgcd_mk {w : TW} {t : HL I11} (hG : Gl w) {K : Option Addr → TW → Prop} (hK : ∀ p w' hg g po nu ra ro dv rc c m d k e b tab, Ext none_ w w' → Eg w' p [hg, g, po, nu, ra, ro, dv, rc, c, m, d, k, e] b 0 tab → w.w.heap.size ≤ b → p.isNone = false → K p w') : cl Pg F.hgcd_New [.agg (encs I11 t).toArray] w [.one .ptr] K := by
  refine hgcd_NewN.mk hG (fun p w' bs b tab e hl hE hb hp => ?_) (by decide)
  obtain ⟨hg, g, po, nu, ra, ro, dv, rc, c, m, d, k, e', rfl⟩ := len13 hl
  exact hK p w' _ _ _ _ _ _ _ _ _ _ _ _ _ b tab e hE hb hp
theorem law21_from {w : TW} {s : Sl} {l : List Nat} (hs : Rd w s l) (hn : l.length ≤ 1048576) : Ct Pg F.zigguratlaw21_from [s.v] w none_ [.one .slice] fun (s' : Sl) w' => Dn w' w.w.heap.size s' (vl W64 l) := by
  refine Ct.zigguratlaw21_from ?_
  unfold Sh.zigguratlaw21_from
  have := hs.len
  refine c1 (ref_From hs.here.nt (by omega)) ?_
  intro s' w' e h
  exact rt1 (c := .slice) _ e h.at
/-- keep.Int of one number twice. -/
theorem same_i {w : TW} {s u : Sl} {B C : Nat} {n m : Bool} {z : Int} (hs : Io w B s n z) (hu : Io w C u m z) {K : Bool → TW → Prop} (hK : ∀ w', Ext none_ w w' → K true w') : cl Pg F.zigguratkeep_Int [.agg #[s.v, .bool n], .agg #[u.v, .bool m]] w [.one .bool] K := by
  refine c1 (keep_Int hs.1 hu.1 rfl (hs.2.trans hu.2.symm)) ?_
  rintro r w' e rfl
  exact hK w' e
theorem xg64 : Xg 6 4 2 1 (-1) := by
  have h1 := (Eu.zero (a := 6) (b := 4)).step (by decide)
  have h2 := h1.step (by decide)
  exact .inr ⟨by decide, 2, 3, 1, 2, 1, h2, rfl, rfl⟩
theorem law21_wakes {w : TW} (hG : Gl w) : Ct Pg F.zigguratlaw21_wakes [] w none_ [.one .bool] fun (r : Bool) _ => r = true := by
  refine Ct.zigguratlaw21_wakes ?_
  unfold Sh.zigguratlaw21_wakes
  refine hgcd_mk (t := ((0 : Int), (0 : Int), (0 : Int), (0 : Int), (0 : Int), (0 : Int), (0 : Int), (0 : Int), (0 : Int), (0 : Int), (0 : Int), ())) hG.here fun p w1 hg g po nu ra ro dv rc c m d k e t tab e1 hE ht hp => ?_
  refine cnd_f (by rw [hp]) ?_
  have l1 : ∀ x, x < W64 → sz x ≤ 4096 := fun x hx => Nat.le_trans (sz_word hx) (by decide)
  refine nw_u64 (x := 6) rfl (by decide) fun b w2 h2 e2 => nw_u64 (x := 4) rfl (by decide) fun b1 w3 h3 e3 => ?_
  have e13 := e2.trans e3
  have hE3 := hE.ext e13
  refine tM hE3.tz (hgcd_Xgcd (a := ⟨some ⟨b, 0, none⟩, 1, 1⟩) (b := ⟨some ⟨b1, 0, none⟩, 1, 1⟩) (x := 6) (y := 4) hE3 (h2.ext e3).rd.nt h3.rd.nt (l1 6 (by decide)) (l1 4 (by decide)) (by decide) (by decide)) ?_
  rintro s r r1 r2 r3 w4 x4 ⟨⟨G, X, Y, hX, hs, hx, hy⟩, hE4⟩
  obtain ⟨rfl, rfl, rfl⟩ := hX.uniq xg64
  intro w5 e5 w6 e6 w7 e7 w8 e8
  have e48 := ((e5.trans e6).trans e7).trans e8
  refine j1 (fun (b : Bool) w' => b = true ∧ Ext none_ w4 w') ?_ ?_
  · have ed : Ext none_ w4 w8.drew := e48.drew
    refine nw_u64 (x := 2) rfl (by decide) fun b2 w9 h9 e9 => ?_
    have e49 := ed.trans e9
    refine same_w (x := 2) (On.ext hs e49) (by decide) (by decide) h9 fun w10 e10 => cnd_t rfl ?_
    have e410 := e49.trans e10
    refine cl0 (num_Of (n := 1) (by decide) (by decide)) ?_
    rintro r4 r5 w11 e11 h11
    have e411 := e410.trans e11
    refine same_i (hx.ext e411) h11 fun w12 e12 => cnd_t rfl ?_
    have e412 := e411.trans e12
    refine cl0 (num_Of (n := -1) (by decide) (by decide)) ?_
    rintro r6 r7 w13 e13' h13
    have e413 := e412.trans e13'
    refine same_i (hy.ext e413) h13 fun w14 e14 => cnd_t rfl ?_
    refine cl0 r17_Unit ?_
    rintro u0 u1 u2 u3 w15 e15 hU
    refine cl0 hgcd_Unit ?_
    rintro v0 v1 v2 v3 w16 e16 hV
    have d1 : dz 1 ≤ 1 := dz_pow (by decide)
    have d0 : dz 0 = 0 := dz_zero.2 rfl
    refine c1 (r17_SameM (hU.ext e16).d4 hV ⟨by omega, by omega, by omega, by omega⟩) ?_
    rintro r w17 e17 rfl
    exact ⟨rfl, (e413.trans e14).trans ((e15.trans e16).trans e17)⟩
  rintro b w18 ⟨rfl, e18⟩
  exact rt1 (c := .bool) true (e1.own ((e13.any.trans x4).trans e18.any) fun c hc => by subst hc; exact ht) rfl
theorem wk21 {w : TW} (hG : Gl w) {K : Bool → TW → Prop} (hK : ∀ w', Ext none_ w w' → K true w') : cl Pg F.zigguratlaw21_wakes [] w [.one .bool] K := by
  refine c1 (law21_wakes hG) ?_
  rintro r w' e rfl
  exact hK w' e
theorem law21_HgcdSteps {w : TW} {t : HL I11} {a b : Sl} {k : Int} (hG : Gl w) (ha : Arg w a) (hb : Arg w b) (_ : -9223372036854775808 ≤ k ∧ k ≤ 9223372036854775807) : Ct Pg F.zigguratlaw21_HgcdSteps [.agg (encs I11 t).toArray, a.v, b.v, .int .i64 k] w none_ [.one .bool] fun (r : Bool) _ => r = true := by
  obtain ⟨la, ha⟩ := ha
  obtain ⟨lb, hb⟩ := hb
  refine Ct.zigguratlaw21_HgcdSteps ?_
  unfold Sh.zigguratlaw21_HgcdSteps
  intro w1 e1
  refine cutc (n := 8) (ha.here.ext e1) rfl fun s w2 e2 hs _ => cutc (n := 8) ((hb.here.ext e1).ext e2) rfl fun s1 w3 e3 ht _ => ?_
  have hs := hs.ext e3
  have nla : (la.take 8).length ≤ 8 := by simp; omega
  have nlb : (lb.take 8).length ≤ 8 := by simp; omega
  generalize la.take 8 = l1 at *
  generalize lb.take 8 = l2 at *
  have kx := sz_vl hs.sm
  have ky := sz_vl ht.sm
  have dx := dz_of_sz kx
  have dy := dz_of_sz ky
  have e13 := (e1.trans e2).trans e3
  refine hgcd_mk (t := t) (hG.here.ext e13) fun p w4 hg g po nu ra ro dv rc c m d k' e t tab e4 hE htt hp => ?_
  have z : w.w.heap.size ≤ t := Nat.le_trans e13.size htt
  refine cnd_f (by rw [hp]) ?_
  have hs := hs.ext e4
  have ht := ht.ext e4
  refine c1 (keep_Lend hs (by omega)) fun s2 w5 e5 L2 => ?_
  refine c1 (keep_Lend (ht.ext e5) (by omega)) fun s3 w6 e6 L3 => ?_
  have L2 := L2.ext e6
  have e46 := e5.trans e6
  have hE6 := hE.ext e46
  have hT := hE6.tz
  refine tM hT (hgcd_Steps hE6 L2.nt L3.nt (by omega) (by omega) (by decide) (by decide)) ?_
  rintro m0 m1 m2 m3 cs ds n w7 x7 ⟨⟨N, A, B, C, D, cc, dd, rfl, hSt, hO, hc, hd⟩, hE7⟩
  have hs := (hs.ext e46).extT hT x7
  have ht := (ht.ext e46).extT hT x7
  have L2 := L2.extT hT x7
  have L3 := L3.extT hT x7
  intro w8 e8 w9 e9
  have e79 := e8.trans e9
  have hs := hs.ext e79
  have ht := ht.ext e79
  refine c1 (law21_from hs (by omega)) fun s6 w10 e10 h6 => ?_
  refine c1 (law21_from (ht.ext e10) (by omega)) fun s7 w11 e11 h7 => ?_
  refine cl0 (r17_Steps (K := k) (h6.dr.ext e11) h7.dr (by omega) (by omega)) ?_
  rintro q0 q1 q2 q3 s8 s9 n' w12 e12 ⟨N', A', B', C', D', cc', dd', rfl, hSt', hM, hc', hd'⟩
  obtain ⟨rfl, rfl, rfl, rfl, rfl, rfl, rfl⟩ := hSt.uniq hSt'
  obtain ⟨hZ, zc, zd⟩ := hSt.1.z4 (n := 16) (by omega) (by omega) (by decide)
  intro w13 e13' w14 e14
  have e1214 := e13'.trans e14
  have e914 := (e10.trans e11).trans (e12.trans e1214)
  have e714 := e79.trans e914
  refine j1 (fun (b : Bool) w' => b = true ∧ Xt1 t w7 w') ?_ ?_
  · refine cnd_t (by simp) ?_
    refine c1 (r17_SameM (hM.ext e1214) (hO.ext e714) (hZ.le (by decide))) ?_
    rintro r w15 e15 rfl
    refine cnd_t rfl ?_
    refine sm ((hc'.ext e1214).ext e15) ((On.ext hc e714).ext e15) (by omega) rfl fun w16 e16 => cnd_t rfl ?_
    have e1416 := e15.trans e16
    refine sm ((hd'.ext e1214).ext e1416) ((On.ext hd e714).ext e1416) (by omega) rfl fun w17 e17 => cnd_t rfl ?_
    have e1417 := e1416.trans e17
    have e717 := e714.trans e1417
    refine c1 (keep_Intact (L2.ext e717) ((hs.ext e914).ext e1417) (by omega)) ?_
    rintro r w18 e18 rfl
    refine cnd_t rfl ?_
    refine c1 (keep_Intact ((L3.ext e717).ext e18) (((ht.ext e914).ext e1417).ext e18) (by omega)) ?_
    rintro r w19 e19 rfl
    refine cnd_t rfl ?_
    have e719 := (e717.trans e18).trans e19
    exact wk21 (hE7.ext e719).gl fun w20 e20 => ⟨rfl, (e719.trans e20).any⟩
  rintro b w21 ⟨rfl, x21⟩
  exact rt1 (c := .bool) true ((e13.trans e4).own ((e46.any.trans x7).trans x21) fun c hc => by subst hc; exact z) rfl
end Go.Proofs.YticehedkalheiaaGreatDoor.Zg
end
