/- A part of the proofs of this seat's laws: words, lemmas or contracts of its functions. -/
import Derived.Test.YticehedkalheiaaGreatDoorGJA
import Derived.Test.YticehedkalheiaaGreatDoorGQ
import Derived.Test.YticehedkalheiaaGreatDoorGP5
import Derived.Test.YticehedkalheiaaGreatDoorGA
import Derived.Test.YticehedkalheiaaGreatDoorGMA
import Derived.Test.YticehedkalheiaaGreatDoorGMB
import Derived.Test.YticehedkalheiaaGreatDoorGMD
import Derived.Test.YticehedkalheiaaGreatDoorGME
import Derived.Test.YticehedkalheiaaGreatDoorGKA
import Derived.Test.YticehedkalheiaaGreatDoorGKE
import Derived.Test.YticehedkalheiaaGreatDoorGIA
import Derived.Test.YticehedkalheiaaGreatDoorGKC
import Derived.Test.YticehedkalheiaaGreatDoorGB
import Derived.Test.YticehedkalheiaaGreatDoorGIB
import Derived.Test.YticehedkalheiaaGreatDoorGK
import Derived.Test.YticehedkalheiaaGreatDoorGMC
import Derived.Test.YticehedkalheiaaGreatDoorGP
import Derived.Test.YticehedkalheiaaGreatDoorGP1
import Derived.Test.YticehedkalheiaaGreatDoorGP2
import Derived.Test.YticehedkalheiaaGreatDoorGP3
import Derived.Test.YticehedkalheiaaGreatDoorGP4
import Derived.Test.YticehedkalheiaaGreatDoorGS
import Derived.Test.YticehedkalheiaaGreatDoorGC
set_option linter.unusedVariables false
set_option linter.unusedSimpArgs false
set_option linter.unnecessarySimpa false
section
namespace Go.Proofs.YticehedkalheiaaGreatDoor.Zg
open Go.RowKit
theorem ref_even {w : TW} {s : Sl} {x : Nat} (h : Dr w s x) (h0 : 0 < x) : Ct Pg F.zigguratref02_even [s.v] w none_ [.one .bool] fun (r : Bool) _ => r = decide (x % 2 = 0) := by
 refine Ct.zigguratref02_even ?_
 unfold Sh.zigguratref02_even
 have hz : 0 < (dg B32 x).length := by
  have := (not_congr (dz_zero (x := x))).2 (by omega)
  show 0 < dz x; omega
 refine (Rd.here h).ix (j := 0) rfl hz ?_
 rw [dg_getD b2, Nat.pow_zero, Nat.div_one]
 refine remN (x := x % B32) (y := 2) rfl rfl (by decide) ?_
 refine rt1 (c := .bool) _ (Ext.refl _ _) ?_
 rw [Bool.eq_iff_iff, decide_eq_true_iff]
 simp only [beq_iff_eq]
 have : x % B32 % 2 = x % 2 := Nat.mod_mod_of_dvd _ (by decide)
 rw [this]
 omega
theorem gcd_half {a b : Nat} (ha : a % 2 = 0) (hb : b % 2 = 1) : Nat.gcd (a / 2) b = Nat.gcd a b := by
 have h := Nat.Coprime.gcd_mul_left_cancel (a / 2) (odd_gcd hb 1)
 rw [Nat.pow_one, Nat.mul_div_cancel' (Nat.dvd_of_mod_eq_zero ha)] at h
 exact h.symm
set_option maxHeartbeats 400000 in
theorem ref_Gcd {w : TW} {s u : Sl} {x y : Nat} (hs : Dr w s x) (hu : Dr w u y) (hx : dz x ≤ 1048576) (hy : dz y ≤ 1048576) : Ct Pg F.zigguratref02_Gcd [s.v, u.v] w none_ [.one .slice] fun (r : Sl) w' => Dr w' r (Nat.gcd x y) := by
 refine Ct.zigguratref02_Gcd ?_
 unfold Sh.zigguratref02_Gcd
 have hs := hs.here
 have hu := hu.here
 refine c1 (ref_Zero hs) ?_
 rintro _ w1 e1 rfl
 refine cnd_d (fun h => ?_) (fun hx0 => ?_)
 ·subst h
  rw [Nat.gcd_zero_left]
  exact rt1 (c := .slice) _ e1 (Rd.at_ (hu.ext e1))
 refine c1 (ref_Zero (hu.ext e1)) ?_
 rintro _ w2 e2 rfl
 have e12 := e1.trans e2
 refine cnd_d (fun h => ?_) (fun hy0 => ?_)
 ·subst h
  rw [Nat.gcd_zero_right]
  exact rt1 (c := .slice) _ e12 (Rd.at_ (hs.ext e12))
 obtain ⟨G, hG⟩ : ∃ G, Nat.gcd x y = G := ⟨_, rfl⟩
 have hlim : ∀ {A k : Nat}, A * 2 ^ k = x → 0 < A → k ≤ 33554432 := fun {A k} h h0 => by
  have h1 : 2 ^ k ≤ x := by rw [← h]; exact Nat.le_mul_of_pos_left _ h0
  have h2 := dz_lt x
  rw [show B32 ^ dz x = 2 ^ (32 * dz x) by rw [Nat.pow_mul]] at h2
  have := (Nat.pow_lt_pow_iff_right (a := 2) (by decide)).1 (Nat.lt_of_le_of_lt h1 h2)
  omega
 refine j3 (fun (a b : Sl) (i : Int) w9 => ∃ A B k : Nat, i = k ∧ Dr w9 a A ∧ Dr w9 b B ∧ 0 < A ∧ 0 < B ∧ (A % 2 = 1 ∨ B % 2 = 1) ∧ Nat.gcd A B * 2 ^ k = G ∧ A ≤ x ∧ B ≤ y ∧ k ≤ 33554432 ∧ Ext none_ w.here w9) ?_ ?_
 ·refine lp3 (fun M (a b : Sl) (i : Int) w3 => ∃ A B k : Nat, i = k ∧ M = A ∧ Dr w3 a A ∧ Dr w3 b B ∧ 0 < A ∧ 0 < B ∧ Nat.gcd A B * 2 ^ k = G ∧ A * 2 ^ k = x ∧ A ≤ x ∧ B ≤ y ∧ Ext none_ w.here w3) x ⟨x, y, 0, rfl, rfl, hs.ext e12, hu.ext e12, by omega, by omega, by simpa using hG, by simp, by omega, by omega, e12⟩ ?_
  rintro M a b i w3 ⟨A, B, k, rfl, rfl, hA, hB, A0, B0, hg, hk, lA, lB, e3⟩
  have kl := hlim hk A0
  have dA : dz M ≤ dz x := dz_mono lA
  have dB : dz B ≤ dz y := dz_mono lB
  refine j1 (fun (z : Bool) w6 => z = decide (M % 2 = 0 ∧ B % 2 = 0) ∧ Ext none_ w3 w6) ?_ ?_
  ·refine c1 (ref_even hA A0) ?_
   rintro _ w4 e4 rfl
   refine cnd_d (fun h => ?_) (fun h => ?_)
   ·refine c1 (ref_even (hB.ext e4) B0) ?_
    rintro _ w5 e5 rfl
    exact ⟨Dec.eq ⟨fun h' => ⟨h, h'⟩, fun h' => h'.2⟩, e4.trans e5⟩
   ·exact ⟨by rw [eq_comm, decide_eq_false_iff_not]; exact fun h' => h h'.1, e4⟩
  rintro z w6 ⟨rfl, e6⟩
  refine cnd_d (fun h => ?_) (fun h => ?_)
  ·refine c1 (ref_Shr (n := 1) (hA.ext e6) (by omega) (by decide)) fun s1 w7 e7 h7 => ?_
   refine c1 (ref_Shr (n := 1) ((hB.ext e6).ext e7) (by omega) (by decide)) fun s2 w8 e8 h8 => ?_
   rw [Nat.pow_one] at h7 h8
   have hg2 : Nat.gcd M B = 2 * Nat.gcd (M / 2) (B / 2) := by rw [← Nat.gcd_mul_left, Nat.mul_div_cancel' (Nat.dvd_of_mod_eq_zero h.1), Nat.mul_div_cancel' (Nat.dvd_of_mod_eq_zero h.2)]
   refine bnd_wi (by omega) (by omega) ⟨M / 2, by omega, M / 2, B / 2, k + 1, by omega, rfl, (Dn.ext h7 e8).dr, h8.dr, by omega, by omega, ?_, ?_, by omega, by omega, ((e3.trans e6).trans e7).trans e8⟩
   ·rw [hg2] at hg; rw [← hg, Nat.pow_succ]; grind
   ·rw [← hk, Nat.pow_succ]
    have := Nat.mul_div_cancel' (Nat.dvd_of_mod_eq_zero h.1)
    generalize M / 2 = z at *
    rw [← this]; grind
  ·exact ⟨M, B, k, rfl, hA.ext e6, hB.ext e6, A0, B0, by omega, hg, lA, lB, kl, e3.trans e6⟩
 rintro a b i w9 ⟨A, B, k, rfl, hA, hB, A0, B0, hodd, hg, lA, lB, kl, e9⟩
 obtain ⟨H, hH⟩ : ∃ H, Nat.gcd A B = H := ⟨_, rfl⟩
 rw [hH] at hg
 have lim : ∀ z, z ≤ max x y → dz z ≤ 1048576 := fun z hz => by
  rcases Nat.le_total x y with h | h
  ·exact Nat.le_trans (dz_mono (show z ≤ y by omega)) hy
  ·exact Nat.le_trans (dz_mono (show z ≤ x by omega)) hx
 refine j1 (fun (a : Sl) w23 => Dr w23 a H ∧ H ≤ max x y ∧ Ext none_ w.here w23) ?_ ?_
 ·refine lp2 (fun M (a b : Sl) w10 => ∃ A B : Nat, M = A + B ∧ Dr w10 a A ∧ Dr w10 b B ∧ 0 < A ∧ (A % 2 = 1 ∨ B % 2 = 1) ∧ Nat.gcd A B = H ∧ A ≤ max x y ∧ B ≤ max x y ∧ Ext none_ w.here w10) (A + B) ⟨A, B, rfl, hA, hB, A0, hodd, hH, by omega, by omega, e9⟩ ?_
  clear hA hB A0 B0 hodd hH lA lB e9 hg hlim
  rintro M a b w10 ⟨A, B, rfl, hA, hB, A0, hodd, hH, lA, lB, e10⟩
  refine c1 (ref_Zero hB) ?_
  rintro _ w11 e11 rfl
  have e11' := e10.trans e11
  refine cnd_i (fun h => ?_) (fun h => ?_)
  ·have B0 : 0 < B := by
    rcases Nat.eq_zero_or_pos B with h' | h'
    ·subst h'; simp at h
    ·exact h'
   refine j1 (fun (a : Sl) w15 => ∃ A5, Dr w15 a A5 ∧ 0 < A5 ∧ A5 % 2 = 1 ∧ A5 ≤ A ∧ Nat.gcd A5 B = H ∧ Ext none_ w11 w15) ?_ ?_
   ·refine lp1 (fun M (a : Sl) w12 => ∃ A4, M = A4 ∧ Dr w12 a A4 ∧ 0 < A4 ∧ (A4 % 2 = 1 ∨ B % 2 = 1) ∧ A4 ≤ A ∧ Nat.gcd A4 B = H ∧ Ext none_ w11 w12) A ⟨A, rfl, hA.ext e11, A0, hodd, Nat.le_refl _, hH, Ext.refl _ _⟩ ?_
    rintro M a w12 ⟨A4, rfl, hA4, A40, ho, lA4, hg4, e12'⟩
    refine c1 (ref_even hA4 A40) ?_
    rintro _ w13 e13 rfl
    refine cnd_d (fun hev => ?_) (fun hev => ?_)
    ·refine c1 (ref_Shr (n := 1) (hA4.ext e13) (by have := lim M (by omega); omega) (by decide)) fun s1 w14 e14 h7 => ?_
     rw [Nat.pow_one] at h7
     exact ⟨M / 2, by omega, M / 2, rfl, h7.dr, by omega, .inr (by omega), by omega, by rw [gcd_half hev (by omega)]; exact hg4, (e12'.trans e13).trans e14⟩
    ·exact ⟨M, hA4.ext e13, A40, by omega, lA4, hg4, e12'.trans e13⟩
   rintro a w15 ⟨A5, hA5, A50, oA5, lA5, hg5, e15⟩
   refine j1 (fun (b : Sl) w19 => ∃ B5, Dr w19 b B5 ∧ 0 < B5 ∧ B5 % 2 = 1 ∧ B5 ≤ B ∧ Nat.gcd A5 B5 = H ∧ Ext none_ w15 w19) ?_ ?_
   ·refine lp1 (fun M (b : Sl) w16 => ∃ B4, M = B4 ∧ Dr w16 b B4 ∧ 0 < B4 ∧ B4 ≤ B ∧ Nat.gcd A5 B4 = H ∧ Ext none_ w15 w16) B ⟨B, rfl, (hB.ext e11).ext e15, B0, Nat.le_refl _, hg5, Ext.refl _ _⟩ ?_
    rintro M b w16 ⟨B4, rfl, hB4, B40, lB4, hg4, e16⟩
    refine c1 (ref_even hB4 B40) ?_
    rintro _ w17 e17 rfl
    refine cnd_d (fun hev => ?_) (fun hev => ?_)
    ·refine c1 (ref_Shr (n := 1) (hB4.ext e17) (by have := lim M (by omega); omega) (by decide)) fun s1 w18 e18 h7 => ?_
     rw [Nat.pow_one] at h7
     exact ⟨M / 2, by omega, M / 2, rfl, h7.dr, by omega, by omega, by rw [Nat.gcd_comm, gcd_half hev oA5, Nat.gcd_comm]; exact hg4, (e16.trans e17).trans e18⟩
    ·exact ⟨M, hB4.ext e17, B40, by omega, lB4, hg4, e16.trans e17⟩
   rintro b w19 ⟨B5, hB5, B50, oB5, lB5, hg6, e19⟩
   have hA19 := hA5.ext e19
   refine c1 (ref_Cmp hA19 hB5) ?_
   rintro _ w20 e20 rfl
   have ee := ((e11'.trans e15).trans e19).trans e20
   refine j2 (fun (a b : Sl) w21 => ∃ A' B', Dr w21 a A' ∧ Dr w21 b B' ∧ 0 < A' ∧ A' % 2 = 1 ∧ A' ≤ B' ∧ B' < A + B ∧ B' ≤ max x y ∧ A' ≤ max x y ∧ Nat.gcd A' B' = H ∧ w21 = w20) ?_ ?_
   ·refine cnd_d (fun hc => ?_) (fun hc => ?_)
    ·have := cmpN_pos.1 hc
     exact ⟨B5, A5, hB5.ext e20, hA19.ext e20, B50, oB5, by omega, by omega, by omega, by omega, by rw [Nat.gcd_comm]; exact hg6, rfl⟩
    ·have : ¬ B5 < A5 := fun h' => hc (cmpN_pos.2 h')
     exact ⟨A5, B5, hA19.ext e20, hB5.ext e20, A50, oA5, by omega, by omega, by omega, by omega, hg6, rfl⟩
   rintro a b w20 ⟨A', B', hA', hB', A'0, oA', hle, hlt, lB', lA', hg7, rfl⟩
   refine c1 (ref_Sub hB' hA' (by have := lim B' lB'; omega) hle) fun s4 w22 e22 h4 => ?_
   exact ⟨A' + (B' - A'), by omega, A', B' - A', rfl, hA'.ext e22, h4.dr, A'0, .inl oA', by rw [Nat.gcd_comm, Nat.gcd_sub_self_left hle, Nat.gcd_comm]; exact hg7, lA', by omega, ee.trans e22⟩
  ·have : B = 0 := by simpa using h
   subst this
   rw [Nat.gcd_zero_right] at hH
   subst hH
   exact ⟨hA.ext e11, lA, e11'⟩
 rintro a w23 ⟨hA, lH, e23⟩
 refine c1 (ref_Shl hA (by have := lim H lH; omega) (by omega)) fun s5 w24 e24 h5 => ?_
 rw [hg, ← hG] at h5
 exact rt1 (c := .slice) _ (e23.trans e24) (Dn.dr h5.at)
end Go.Proofs.YticehedkalheiaaGreatDoor.Zg
end

section
namespace Go.Proofs.YticehedkalheiaaGreatDoor.Zg
open Go.RowKit
theorem mvl_getD (ls : List (List Nat)) (j : Nat) : (ls.map (vl W64)).getD j 0 = vl W64 (ls.getD j []) := by
 simp only [List.getD_eq_getElem?_getD, List.getElem?_map]
 cases ls[j]? <;> rfl
structure Few (ls : List (List Nat)) : Prop where
 n : ls.length ≤ 16
 k : ∀ i, (ls.getD i []).length ≤ 128
theorem dz_div {x y : Nat} : dz (x / y) ≤ dz x := dz_mono (Nat.div_le_self _ _)
section
variable {w : TW} {s : Sl} {ls : List (List Nat)}
theorem Few.sz (h : Few ls) {w : TW} {t : Sl} {j : Nat} (hr : Rd w t (ls.getD j [])) : Go.Proofs.YticehedkalheiaaGreatDoor.Zg.sz (vl W64 (ls.getD j [])) ≤ 128 := Nat.le_trans (sz_vl hr.sm) (h.k j)
theorem Few.dz (h : Few ls) {w : TW} {t : Sl} {j : Nat} (hr : Rd w t (ls.getD j [])) : Go.Proofs.YticehedkalheiaaGreatDoor.Zg.dz (vl W64 (ls.getD j [])) ≤ 256 := Nat.le_trans (dz_sz _) (by have := h.sz hr; omega)
theorem r17_Coprime (hl : Rl w s ls) (hf : Few ls) : Ct Pg F.zigguratref17_Coprime [s.v] w none_ [.one .bool] fun (r : Bool) _ => (r = true ↔ copl (ls.map (vl W64))) := by
 refine Ct.zigguratref17_Coprime ?_
 unfold Sh.zigguratref17_Coprime
 have hl := hl.here
 have nl := hl.len
 have n16 := hf.n
 rw [nl]
 refine j0 (fun w7 => copl (ls.map (vl W64)) ∧ Ext none_ w.here w7) ?_ ?_
 ·refine lp1 (fun M (i : Int) w1 => ∃ j : Nat, i = j ∧ M = ls.length - j ∧ j ≤ ls.length ∧ (∀ i, i < j → ∀ k, k < i → Nat.gcd ((ls.map (vl W64)).getD i 0) ((ls.map (vl W64)).getD k 0) = 1) ∧ Ext none_ w.here w1) ls.length ⟨0, rfl, rfl, by omega, fun i h => by omega, Ext.refl _ _⟩ ?_
  rintro M i w1 ⟨j, rfl, rfl, hj, hc, e1⟩
  refine cnd_d (fun h => ?_) (fun h => ?_)
  ·have hj1 : j < ls.length := by omega
   refine j0 (fun w6 => (∀ k, k < j → Nat.gcd ((ls.map (vl W64)).getD j 0) ((ls.map (vl W64)).getD k 0) = 1) ∧ Ext none_ w.here w6) ?_ ?_
   ·refine lp1 (fun M (i : Int) w2 => ∃ q : Nat, i = q ∧ M = j - q ∧ q ≤ j ∧ (∀ k, k < q → Nat.gcd ((ls.map (vl W64)).getD j 0) ((ls.map (vl W64)).getD k 0) = 1) ∧ Ext none_ w.here w2) j ⟨0, rfl, rfl, by omega, fun k h => by omega, e1⟩ ?_
    rintro M i w2 ⟨q, rfl, rfl, hq, hcq, e2⟩
    refine cnd_d (fun h => ?_) (fun h => ?_)
    ·refine hl.idx e2.drew rfl hj1 fun a u _ hu => ?_
     refine hl.idx e2.drew rfl (show q < ls.length by omega) fun a1 v hv1 hv => ?_
     have k1 := hf.dz hu
     have k2 := hf.dz hv
     have nu := hu.len
     have ku := hf.k j
     have nv := hv.len
     have kv := hf.k q
     refine c1 (ref_From (hu.ext e2.drew).nt (by omega)) fun s1 w3 e3 h3 => ?_
     have e23 := e2.drew.trans e3
     refine hld1 (hv1 _ e23) ?_
     refine c1 (ref_From (hv.ext e23).nt (by omega)) fun s2 w4 e4 h4 => ?_
     refine c1 (ref_Gcd (h3.dr.ext e4) h4.dr (by omega) (by omega)) fun s3 w5 e5 h5 => ?_
     refine c1 (ref_Small (y := 1) (by decide)) fun s4 w6 e6 h6 => ?_
     refine c1 (ref_Cmp (h5.ext e6) h6.dr) ?_
     rintro _ w7 e7 rfl
     have ee := (((e23.trans e4).trans e5).trans e6).trans e7
     refine cnd_i (fun hne => ?_) (fun heq => ?_)
     ·simp only [bne_iff_ne, ne_eq] at hne
      refine rt1 (c := .bool) false ee ⟨fun h => (by cases h), fun hco => ?_⟩
      have := hco j (by simpa using hj1) q (by omega)
      rw [mvl_getD, mvl_getD] at this
      exact absurd (cmpN_eq.2 this) hne
     ·simp only [bne_eq_false_iff_eq] at heq
      have heq := cmpN_eq.1 heq
      refine bnd_wi (by omega) (by omega) ⟨j - (q + 1), by omega, q + 1, by omega, rfl, by omega, fun k hk => ?_, ee⟩
      rcases Nat.lt_or_ge k q with h | h
      ·exact hcq k h
      ·rw [show k = q by omega, mvl_getD, mvl_getD]; exact heq
    ·have : q = j := by omega
     subst this
     exact ⟨hcq, e2⟩
   rintro w6 ⟨hcj, e6⟩
   refine bnd_wi (by omega) (by omega) ⟨ls.length - (j + 1), by omega, j + 1, by omega, rfl, by omega, fun i hi => ?_, e6⟩
   rcases Nat.lt_or_ge i j with h | h
   ·exact hc i h
   ·rw [show i = j by omega]; exact hcj
  ·have : j = ls.length := by omega
   subst this
   exact ⟨by intro i hi; exact hc i (by simpa using hi), e1⟩
 rintro w7 ⟨hc, e7⟩
 exact rt1 (c := .bool) true e7 ⟨fun _ => hc, fun _ => rfl⟩
end
end Go.Proofs.YticehedkalheiaaGreatDoor.Zg
end

section
namespace Go.Proofs.YticehedkalheiaaGreatDoor.Zg
open Go.RowKit
def NewN (n : Nat) (F : FuncId) : Prop := ∀ {t : HL I11} {w : TW}, Ct Pg F [.agg (encs I11 t).toArray] w none_ [.one .ptr] fun (p : Option Addr) w' => ∃ bs b tab, bs.length = n ∧ Chain w' p bs b ∧ w.w.heap.size ≤ b ∧ (∀ c ∈ bs, w.w.heap.size ≤ c ∧ c ≠ b) ∧ TabOk tab ∧ Tn w' b 0 0 0 tab
theorem new_stepN {n : Nat} {Fi : FuncId} (h : NewN n Fi) {t : HL I11} {w : TW} {ty : TypeId} : nwv w.here fun w1 => cl Pg Fi [.agg (encs I11 t).toArray] w1 [.one .ptr] fun (p : Option Addr) w2 => nwb w2 [.pointer p] ty fun b w3 => Rt none_ [.one .ptr] (fun (p : Option Addr) w' => ∃ bs b tab, bs.length = n + 1 ∧ Chain w' p bs b ∧ w.w.heap.size ≤ b ∧ (∀ c ∈ bs, w.w.heap.size ≤ c ∧ c ≠ b) ∧ TabOk tab ∧ Tn w' b 0 0 0 tab) w (.pointer (some ⟨b, 0, none⟩)) w3 := by
 intro w1 e1
 refine c1 (h (t := t)) ?_
 rintro p w2 e2 ⟨bs, b, tab, hlen, hen, hbt, hne, htab, htn⟩
 intro c w3 hn
 have hlt := htn.lt
 have hc : c = w2.w.heap.size := hn.at_
 have hle : w.w.heap.size ≤ w1.w.heap.size := e1.size
 have hle2 := e2.size
 refine rt1 (c := .ptr) (some ⟨c, 0, none⟩) ((e1.trans e2).trans (hn.ext _)) ⟨c :: bs, b, tab, by simp [hlen], ?_, by omega, ?_, htab, (htn.ext (hn.ext _)).at⟩
 ·refine ⟨rfl, fun hV => ?_, p, ?_, (hen.ext (hn.ext _)).at⟩
  ·have hV : w3.V c := hV
   rw [hn.V] at hV
   have := w2.lt _ hV
   omega
  ·show w3.w.cell? _ = _
   rw [cell_of_row w3.w c 0 _ ty (0, 0) hn.heap]
   rfl
 ·intro x hx
  rcases List.mem_cons.1 hx with rfl | hx
  ·exact ⟨by omega, by omega⟩
  ·have := hne x hx
   exact ⟨by omega, this.2⟩
theorem toom_NewN : NewN 3 F.toom_New := fun {t w} => Calls.mono (toom_New (t := t) (w := w)) fun e w' h => by
 obtain ⟨x, T', h1, h2, h3, d, k, e, b, tab, k1, k2, k3, k4, k5⟩ := h
 exact ⟨x, T', h1, h2, h3, [d, k, e], b, tab, rfl, k1, k2, k3, k4, k5⟩
theorem mul_NewN : NewN 4 F.mul_New := fun {t w} => Ct.mul_New (new_stepN toom_NewN)
theorem divs_NewN : NewN 5 F.divs_New := fun {t w} => Ct.divs_New (new_stepN mul_NewN)
theorem recip_NewN : NewN 6 F.recip_New := fun {t w} => Ct.recip_New (new_stepN divs_NewN)
theorem div_NewN : NewN 7 F.div_New := fun {t w} => Ct.div_New (new_stepN recip_NewN)
theorem root_NewN : NewN 8 F.root_New := fun {t w} => Ct.root_New (new_stepN div_NewN)
theorem radix_NewN : NewN 9 F.radix_New := fun {t w} => Ct.radix_New (new_stepN root_NewN)
theorem num_NewN : NewN 10 F.num_New := fun {t w} => Ct.num_New (new_stepN radix_NewN)
theorem power_NewN : NewN 11 F.power_New := fun {t w} => Ct.power_New (new_stepN num_NewN)
theorem gcd_NewN : NewN 12 F.gcd_New := fun {t w} => Ct.gcd_New (new_stepN power_NewN)
theorem hgcd_NewN : NewN 13 F.hgcd_New := fun {t w} => Ct.hgcd_New (new_stepN gcd_NewN)
theorem modn_NewN : NewN 14 F.modn_New := fun {t w} => Ct.modn_New (new_stepN hgcd_NewN)
theorem NewN.mk {n : Nat} {F : FuncId} (h : NewN n F) {w : TW} {t : HL I11} (hG : Gl w) {K : Option Addr → TW → Prop} (hK : ∀ p w' bs b tab, Ext none_ w w' → bs.length = n → Eg w' p bs b 0 tab → w.w.heap.size ≤ b → p.isNone = false → K p w') (hn : 0 < n) : cl Pg F [.agg (encs I11 t).toArray] w [.one .ptr] K := by
 refine c1 (h (t := t)) ?_
 rintro p w' e ⟨bs, b, tab, hl, hc, hb, hne, htab, htn⟩
 refine hK p w' bs b tab e hl ⟨hc, fun c hc => (hne c hc).2, htab, hG.ext e, 0, 0, htn⟩ hb ?_
 cases bs with
 | nil => simp at hl; omega
 | cons x xs => rw [hc.1]; rfl
theorem dg_w {x : Nat} (h0 : 0 < x) (hx : x < W64) : dg W64 x = [x] := by
 rw [dg_pos W2 h0, Nat.mod_eq_of_lt hx, Nat.div_eq_of_lt hx, dg_zero]
theorem same_w {w : TW} {s : Sl} {B b x : Nat} (hs : On w B s x) (h0 : 0 < x) (hx : x < W64) {C : Nat} (hb : Ow w C ⟨some ⟨b, 0, none⟩, 1, 1⟩ [x]) {K : Bool → TW → Prop} (hK : ∀ w', Ext none_ w w' → K true w') : cl Pg F.zigguratkeep_Same [s.v, .slice (some ⟨b, 0, none⟩) 1 1] w [.one .bool] K := by
 rw [On, dg_w h0 hx] at hs
 refine c1 (keep_Same (s := s) (t := ⟨some ⟨b, 0, none⟩, 1, 1⟩) hs.rd hb.rd) ?_
 rintro r w' e rfl
 exact hK w' e
theorem same_on {w : TW} {s u : Sl} {B C x : Nat} (hs : On w B s x) (hu : On w C u x) {K : Bool → TW → Prop} (hK : ∀ w', Ext none_ w w' → K true w') : cl Pg F.zigguratkeep_Same [s.v, u.v] w [.one .bool] K := by
 refine c1 (keep_Same hs.rd hu.rd) ?_
 rintro r w' e rfl
 exact hK w' e
end Go.Proofs.YticehedkalheiaaGreatDoor.Zg
end
