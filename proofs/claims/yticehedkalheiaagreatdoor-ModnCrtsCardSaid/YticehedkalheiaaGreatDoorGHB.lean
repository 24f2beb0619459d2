/- A part of the proofs of this seat's laws: words, lemmas or contracts of its functions. -/
import Derived.Test.YticehedkalheiaaGreatDoorGHA
import Derived.Test.YticehedkalheiaaGreatDoorGIA
import Derived.Test.YticehedkalheiaaGreatDoorGA
import Derived.Test.YticehedkalheiaaGreatDoorGMA
import Derived.Test.YticehedkalheiaaGreatDoorGMB
import Derived.Test.YticehedkalheiaaGreatDoorGMD
import Derived.Test.YticehedkalheiaaGreatDoorGME
import Derived.Test.YticehedkalheiaaGreatDoorGKA
import Derived.Test.YticehedkalheiaaGreatDoorGKE
import Derived.Test.YticehedkalheiaaGreatDoorGKC
import Derived.Test.YticehedkalheiaaGreatDoorGB
import Derived.Test.YticehedkalheiaaGreatDoorGIB
import Derived.Test.YticehedkalheiaaGreatDoorGJA
import Derived.Test.YticehedkalheiaaGreatDoorGJB
import Derived.Test.YticehedkalheiaaGreatDoorGK
import Derived.Test.YticehedkalheiaaGreatDoorGQ
import Derived.Test.YticehedkalheiaaGreatDoorGMC
import Derived.Test.YticehedkalheiaaGreatDoorGP
import Derived.Test.YticehedkalheiaaGreatDoorGP1
import Derived.Test.YticehedkalheiaaGreatDoorGP2
import Derived.Test.YticehedkalheiaaGreatDoorGP3
import Derived.Test.YticehedkalheiaaGreatDoorGP4
import Derived.Test.YticehedkalheiaaGreatDoorGP5
import Derived.Test.YticehedkalheiaaGreatDoorGS
import Derived.Test.YticehedkalheiaaGreatDoorGC
set_option linter.unusedVariables false
set_option linter.unusedSimpArgs false
set_option linter.unnecessarySimpa false
section
namespace Go.Proofs.YticehedkalheiaaGreatDoor.Zg
open Go.RowKit
def Z4 (n A B C D : Nat) : Prop := dz A ≤ n ∧ dz B ≤ n ∧ dz C ≤ n ∧ dz D ≤ n
section
variable {w w' : TW} {a b c d : Sl} {A B C D : Nat}
end
theorem Eu.z4 {x y N A B C D c d n : Nat} (h : Eu x y N A B C D c d) (hx : dz x ≤ n) (hy : dz y ≤ n) (hn : 1 ≤ n) : Z4 n A B C D ∧ dz c ≤ n ∧ dz d ≤ n := by
 obtain ⟨h1, h2, h3, h4, h5, h6⟩ := h.small
 have d1 : dz 1 ≤ 1 := dz_pow (by decide)
 have k1 : dz (max 1 x) ≤ n := by
  rcases Nat.le_total 1 x with h | h
  ·rwa [Nat.max_eq_right h]
  ·rw [Nat.max_eq_left h]; omega
 have k2 : dz (max 1 y) ≤ n := by
  rcases Nat.le_total 1 y with h | h
  ·rwa [Nat.max_eq_right h]
  ·rw [Nat.max_eq_left h]; omega
 have k3 : dz (max x y) ≤ n := by
  rcases Nat.le_total x y with h | h
  ·rwa [Nat.max_eq_right h]
  ·rwa [Nat.max_eq_left h]
 exact ⟨⟨Nat.le_trans (dz_mono h1) k1, Nat.le_trans (dz_mono h2) k1, Nat.le_trans (dz_mono h3) k2, Nat.le_trans (dz_mono h4) k2⟩, Nat.le_trans (dz_mono h5) k3, Nat.le_trans (dz_mono h6) hy⟩
end Go.Proofs.YticehedkalheiaaGreatDoor.Zg
end

section
namespace Go.Proofs.YticehedkalheiaaGreatDoor.Zg
open Go.RowKit
set_option maxHeartbeats 800000 in
theorem r17_Xgcd {w : TW} {a b : Sl} {x y : Nat} (ha : Dr w a x) (hb : Dr w b y) (hx : dz x ≤ 8192) (hy : dz y ≤ 8192) :
  Ct Pg F.zigguratref17_Xgcd [a.v, b.v] w none_ R5x fun (s xs : Sl) (xn : Bool) (ys : Sl) (yn : Bool) w' => ∃ G X Y, Xg x y G X Y ∧ Dr w' s G ∧ Zr w' xs xn X ∧ Zr w' ys yn Y := by
 refine Ct.zigguratref17_Xgcd ?_
 unfold Sh.zigguratref17_Xgcd
 intro w1 e1 w2 e2
 have e12 := e1.trans e2
 have ha := ha.here.ext e12
 have hb := hb.here.ext e12
 refine ⟨fun (z : Bool) (x1 : Sl) (x2 : Bool) (x3 : Sl) (x4 : Bool) w5 => z = decide (x = 0 ∧ y = 0) ∧ Ext none_ w2 w5, ?_, ?_⟩
 ·refine c1 (ref_Zero ha) ?_
  rintro _ w3 e3 rfl
  refine cnd_d (fun h => ?_) (fun h => ?_)
  ·refine c1 (ref_Zero (hb.ext e3)) ?_
   rintro _ w4 e4 rfl
   exact ⟨by rw [Bool.eq_iff_iff, decide_eq_true_iff, decide_eq_true_iff]; exact ⟨fun h' => ⟨h, h'⟩, fun h' => h'.2⟩, e3.trans e4⟩
  ·exact ⟨by rw [eq_comm, decide_eq_false_iff_not]; exact fun h' => h h'.1, e3⟩
 rintro z x1 x2 x3 x4 w5 ⟨rfl, e5⟩
 have e15 := e12.trans e5
 have ha := ha.ext e5
 have hb := hb.ext e5
 refine cnd_d (fun h0 => ?_) (fun h0 => ?_)
 ·intro w6 e6 w7 e7
  exact ⟨(Sl.nil, Sl.nil, _, Sl.nil, _, ()), rfl, e15.trans (e6.trans e7), 0, 0, 0, .inl ⟨h0.1, h0.2, rfl, rfl, rfl⟩, Dr.nil _, ⟨Dr.nil _, rfl⟩, ⟨Dr.nil _, rfl⟩⟩
 refine cl0 (ref17_Small (n := 1) (by decide) (by decide)) ?_
 rintro r r1 w8 e8 ⟨h8, -⟩
 refine cl0 (ref17_Small (n := 1) (by decide) (by decide)) ?_
 rintro r2 r3 w9 e9 ⟨h9, -⟩
 intro w10 e10 w11 e11 w12 e12' w13 e13 w14 e14 w15 e15' w16 e16 w17 e17
 have e917 := ((((e10.trans e11).trans e12').trans e13).trans e14).trans ((e15'.trans e16).trans e17)
 have e517 := (e8.trans e9).trans e917
 have h8 := h8.ext (e9.trans e917)
 have h9 := h9.ext e917
 have ha := ha.ext e517
 have hb := hb.ext e517
 have e117 := e15.trans e517
 have z0 : ∀ w, Zr w Sl.nil false 0 := fun w => ⟨Dr.nil _, rfl⟩
 clear e917 e517 e10 e11 e12' e13 e14 e15' e16 e17 e8 e9 e12 e5 e1 e2 e15
 refine ⟨fun (s : Sl) (_ : Sl) (_ : Bool) (_ : Sl) (_ : Bool) (xs : Sl) (xn : Bool) (ys : Sl) (yn : Bool) w31 => (∃ G X Y, Xg x y G X Y ∧ Dr w31 s G ∧ Zr w31 xs xn X ∧ Zr w31 ys yn Y) ∧ Ext none_ w17 w31, ?_, ?_⟩
 ·refine ⟨fun (M : Nat) (s u : Sl) (_ : Sl) (_ : Bool) (_ : Sl) (_ : Bool) (x0 : Sl) (x0n : Bool) (y0 : Sl) (y0n : Bool) (x1 : Sl) (x1n : Bool) (y1 : Sl) (y1n : Bool) w18 => ∃ N A B C D cc dd : Nat, M = dd ∧ Eu x y N A B C D cc dd ∧ Dr w18 s cc ∧ Dr w18 u dd ∧ Zr w18 x0 x0n (sg N * D) ∧ Zr w18 y0 y0n (-(sg N * B)) ∧ Zr w18 x1 x1n (-(sg N * C)) ∧ Zr w18 y1 y1n (sg N * A) ∧ Ext none_ w17 w18, ⟨y, 0, 1, 0, 0, 1, x, y, rfl, .zero, ha, hb, h8, z0 _, z0 _, h9, Ext.refl _ _⟩, ?_⟩
  clear ha hb h8 h9
  rintro M s u _ _ _ _ x0 x0n y0 y0n x1' x1n y1 y1n w18 ⟨N, A, B, C, D, cc, dd, rfl, hEu, hs, hu, hx0, hy0, hx1, hy1, e18⟩
  obtain ⟨hZ, zc, zd⟩ := hEu.z4 hx hy (by decide)
  obtain ⟨z1, z2, z3, z4⟩ := hZ
  refine c1 (ref_Zero hu) ?_
  rintro _ w19 e19 rfl
  have hs := hs.ext e19
  have hu := hu.ext e19
  have hx0 := hx0.ext e19
  have hy0 := hy0.ext e19
  have hx1 := hx1.ext e19
  have hy1 := hy1.ext e19
  have e1719 := e18.trans e19
  refine cnd_i (fun h => ?_) (fun h => ?_)
  ·simp only [Bool.not_eq_true', decide_eq_false_iff_not] at h
   have hM0 : 0 < M := Nat.pos_of_ne_zero h
   refine c2 (ref_DivMod hs hu hM0 (by omega) (by omega)) ?_
   rintro s2 s3 w20 e20 ⟨h2, h3⟩
   have zq : dz (cc / M) ≤ dz cc := dz_div
   have e20d := e20.drew
   refine cl0 (ref17_Nat (Rd.drew h2)) ?_
   rintro r4 r5 w21 e21 h4
   refine cl0 (ref17_Mul h4 (hx1.ext (e20d.trans e21)) (by rw [Int.natAbs_natCast]; omega) (by rw [sg_abs']; omega)) ?_
   rintro r6 r7 w22 e22 ⟨h6, -⟩
   have e2022 := (e20d.trans e21).trans e22
   have k1 : dz ((cc / M : Nat) * -(sg N * (C : Int))).natAbs ≤ 16384 := by
    rw [Int.natAbs_mul, sg_abs', Int.natAbs_natCast]
    have := dz_mul (cc / M) C
    omega
   refine cl0 (ref17_Sub (hx0.ext e2022) h6 (by rw [sg_abs]; omega) (by omega)) ?_
   rintro r8 r9 w23 e23 ⟨h8, -⟩
   rw [sg_next] at h8
   intro w24 e24 w25 e25
   have e2025 := (e2022.trans e23).trans (e24.trans e25)
   have e2025d := e2025.drew
   refine cl0 (ref17_Nat (Rd.drew (h2.ext (((Ext.refl _ _).drew.trans e21).trans (e22.trans (e23.trans (e24.trans e25))))))) ?_
   rintro r10 r11 w26 e26 h10
   refine cl0 (ref17_Mul h10 (hy1.ext (e2025d.trans e26)) (by rw [Int.natAbs_natCast]; omega) (by rw [sg_abs]; omega)) ?_
   rintro r12 r13 w27 e27 ⟨h12, -⟩
   have e2027 := (e2025d.trans e26).trans e27
   have k2 : dz ((cc / M : Nat) * (sg N * (A : Int))).natAbs ≤ 16384 := by
    rw [Int.natAbs_mul, sg_abs, Int.natAbs_natCast]
    have := dz_mul (cc / M) A
    omega
   refine cl0 (ref17_Sub (hy0.ext e2027) h12 (by rw [sg_abs']; omega) (by omega)) ?_
   rintro r14 r15 w28 e28 ⟨h14, -⟩
   rw [sg_next'] at h14
   intro w29 e29 w30 e30
   have e2830 := e29.trans e30
   have e2030 := (e2027.trans e28).trans e2830
   have e2330 : Ext none_ w23 w30 := ((e24.trans e25).drew.trans e26).trans ((e27.trans e28).trans e2830)
   have e2030' : Ext none_ w20 w30 := ((Ext.refl _ _).drew.trans e21).trans ((e22.trans e23).trans ((e24.trans e25).drew.trans (e26.trans ((e27.trans e28).trans e2830))))
   refine ⟨cc % M, Nat.mod_lt _ hM0, N + 1, _, _, _, _, M, cc % M, rfl, hEu.step hM0, hu.ext e2030, h3.ext e2030', ?_, ?_, h8.ext e2330, h14.ext e2830, e1719.trans e2030⟩
   ·have := hx1.ext e2030
    rw [sg_succ, Int.neg_mul]; exact this
   ·have := hy1.ext e2030
    rw [sg_succ, Int.neg_mul, Int.neg_neg]; exact this
  ·simp only [Bool.not_eq_false', decide_eq_true_iff] at h
   subst h
   exact ⟨⟨cc, _, _, .inr ⟨h0, N, A, B, C, D, hEu, rfl, rfl⟩, hs, hx0, hy0⟩, e1719⟩
 rintro s _ _ _ _ xs xn ys yn w31 ⟨⟨G, X, Y, hX, hs, hxs, hys⟩, e31⟩
 intro w32 e32 w33 e33
 have ee : Ext none_ w31 w33 := (Ext.refl _ _).drew.trans (e32.trans e33)
 exact ⟨(_, _, _, _, _, ()), rfl, (e117.trans e31).trans ee, G, X, Y, hX, Rd.at_ (hs.ext ee), (hxs.ext ee).at, (hys.ext ee).at⟩
end Go.Proofs.YticehedkalheiaaGreatDoor.Zg
end

section
namespace Go.Proofs.YticehedkalheiaaGreatDoor.Zg
open Go.RowKit
theorem same_i {w : TW} {s u : Sl} {B C : Nat} {n m : Bool} {z : Int} (hs : Io w B s n z) (hu : Io w C u m z) {K : Bool → TW → Prop} (hK : ∀ w', Ext none_ w w' → K true w') : cl Pg F.zigguratkeep_Int [.agg #[s.v, .bool n], .agg #[u.v, .bool m]] w [.one .bool] K := by
 refine c1 (keep_Int hs.1 hu.1 rfl (hs.2.trans hu.2.symm)) ?_
 rintro r w' e rfl
 exact hK w' e
end Go.Proofs.YticehedkalheiaaGreatDoor.Zg
end
