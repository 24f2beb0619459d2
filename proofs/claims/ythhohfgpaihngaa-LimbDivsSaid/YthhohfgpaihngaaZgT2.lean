/- A part of the proofs of this seat's laws: words, lemmas or contracts of its functions. -/
import Derived.Test.YthhohfgpaihngaaZgT1
set_option linter.unusedVariables false
set_option linter.unusedSimpArgs false
set_option linter.unnecessarySimpa false
namespace Go.Proofs.Ythhohfgpaihngaa.Zg
open Go.RowKit

theorem cmp_ge {x y : Nat} : decide (cmpN x y ≥ 0) = decide (y ≤ x) := by
  rw [Bool.eq_iff_iff, decide_eq_true_iff, decide_eq_true_iff]
  have := @cmpN_neg x y
  omega

theorem law02_LimbWords {w : TW} {a b : Sl} {y : Nat} (ha : Arg w a) (hb : Arg w b) (hy : y < W64) : Ct Pg F.zigguratlaw02_LimbWords [a.v, b.v, .int .u64 y] w none_ [.one .bool] fun (r : Bool) _ => r = true := by
  obtain ⟨la, ha⟩ := ha
  obtain ⟨lb, hb⟩ := hb
  refine Ct.zigguratlaw02_LimbWords ?_
  unfold Sh.zigguratlaw02_LimbWords
  refine cutc (n := 50) ha.here rfl fun s w1 e1 hs _ => cutc (n := 50) (hb.here.ext e1) rfl fun t w2 e2 ht _ => ?_
  have hs := hs.ext e2
  have hx := sz_vl hs.sm
  have hz := sz_vl ht.sm
  have hla : (la.take 50).length ≤ 50 := by simp; omega
  have hlb : (lb.take 50).length ≤ 50 := by simp; omega
  generalize la.take 50 = l at *
  generalize lb.take 50 = m at *
  refine c1 (keep_Lend hs (by omega)) ?_
  intro s2 w3 e3 L1
  refine c1 (keep_Lend (ht.ext e3) (by omega)) ?_
  intro s3 wb e4 L2
  have hs := hs.ext (e3.trans e4)
  have ht := ht.ext (e3.trans e4)
  have L1 := L1.ext e4
  have e0 := ((e1.trans e2).trans e3).trans e4
  clear e1 e2 e3 e4
  obtain ⟨x, hX⟩ : ∃ x, vl W64 l = x := ⟨_, rfl⟩
  obtain ⟨z, hZ⟩ : ∃ z, vl W64 m = z := ⟨_, rfl⟩
  have N1 := L1.nt
  have N2 := L2.nt
  rw [hX] at hx N1
  rw [hZ] at hz N2
  have hzy : sz (z * y) ≤ 51 := Nat.le_trans (sz_mul _ _) (by have := sz_word hy; omega)
  have hadd := sz_add x (z * y)
  have dx := dz_of_sz hx
  have dz' := dz_of_sz hz
  have dzy := dz_of_sz hzy
  have dy := dz_of_sz (sz_word hy)
  have dadd := dz_of_sz hadd
  refine fr ht (Ext.refl _ _) (by omega) fun s4 w5 _ f5 h4 => ?_
  rw [hZ] at h4
  refine c1 (ref_Small hy) ?_
  intro s5 w6 e6 h5
  refine c1 (ref_Mul (h4.ext e6).dr h5.dr (by omega) (by omega)) ?_
  intro s6 w7 e7 h6
  have f7 := (f5.trans e6).trans e7
  refine j1 (fun (b : Bool) w' => b = false ∧ Ext none_ w7 w') ?_ ?_
  · refine c1 (limb_MulWord (N2.ext f7) hy (by omega)) ?_
    intro s7 w8 e8 h7
    refine sm (h6.ext e8).dr h7 (by omega) rfl fun w9 e9 => cnd_f rfl ?_
    refine fr hs ((f7.trans e8).trans e9) (by omega) fun s8 w10 e10 f10 h8 => ?_
    rw [hX] at h8
    refine c1 (ref_Add h8.dr (((h6.ext e8).ext e9).ext e10).dr (by omega) (by omega)) ?_
    intro s9 w11 e11 h9
    refine c1 (limb_AddMul (N1.ext (f10.trans e11)) (N2.ext (f10.trans e11)) hy (by omega) (by omega)) ?_
    intro s10 w12 e12 h10
    refine sm (h9.ext e12).dr h10 (by omega) rfl fun w13 e13 => ⟨rfl, ((((e8.trans e9).trans e10).trans e11).trans e12).trans e13⟩
  rintro b w14 ⟨rfl, g14⟩
  have f14 := f7.trans g14
  have h6 := h6.ext g14
  refine cnd_f rfl ?_
  refine c2 (limb_SubMul (N1.ext f14) (N2.ext f14) hy (by omega) (by omega)) ?_
  rintro s11 ok w15 e15 ⟨rfl, h11⟩
  refine fr hs (f14.trans e15) (by omega) fun s12 w16 e16 f16 h12 => ?_
  rw [hX] at h12
  have h6 := (h6.ext e15).ext e16
  have h11 := h11.ext e16
  refine c1 (ref_Cmp h12.dr h6.dr) ?_
  rintro r w17 e17 rfl
  have h6 := h6.ext e17
  have h11 := h11.ext e17
  have f17 := f16.trans e17
  refine cnd_f (by rw [cmp_ge]; simp) ?_
  refine j1 (fun (b : Bool) w' => b = false ∧ Ext none_ wb w') ?_ ?_
  · refine cnd_d (fun hle => ?_) (fun hle => ?_)
    · refine fr hs f17 (by omega) fun s13 w18 e18 f18 h13 => ?_
      rw [hX] at h13
      refine c1 (ref_Sub h13.dr (h6.ext e18).dr (by omega) hle) ?_
      intro s14 w19 e19 h14
      exact sm h14.dr ((h11.ext e18).ext e19) (by have := dz_mono (Nat.sub_le x (z * y)); omega) rfl fun w20 e20 => cnd_f rfl (cnd_f (by simp [hle]) ⟨rfl, (f18.trans e19).trans e20⟩)
    · refine cnd_t (by simp [hle]) ⟨?_, f17⟩
      have := h11.len
      rw [show x - z * y = 0 by omega, sz0] at this
      simp [this]
  rintro b w21 ⟨rfl, f21⟩
  refine cnd_f rfl ?_
  refine j1 (fun (b : Bool) w' => b = true ∧ Ext none_ wb w') ?_ ?_
  · exact tact L1 hs f21 (by omega) fun w27 f27 => cnd_t rfl (tact L2 ht f27 (by omega) fun w28 f28 => cnd_t rfl (wk fun w29 e29 => ⟨rfl, f28.trans e29⟩))
  rintro b w30 ⟨rfl, f30⟩
  exact rt1 (c := .bool) _ (e0.trans f30) rfl

theorem law02_LimbShifts {w : TW} {a : Sl} {n : Int} (ha : Arg w a) (_ : -9223372036854775808 ≤ n ∧ n ≤ 9223372036854775807) : Ct Pg F.zigguratlaw02_LimbShifts [a.v, .int .i64 n] w none_ [.one .bool] fun (r : Bool) _ => r = true := by
  obtain ⟨la, ha⟩ := ha
  refine Ct.zigguratlaw02_LimbShifts ?_
  unfold Sh.zigguratlaw02_LimbShifts
  refine cutc (n := 40) ha.here rfl fun s w1 e1 hs _ => ?_
  have hx := sz_vl hs.sm
  have hla : (la.take 40).length ≤ 40 := by simp; omega
  generalize la.take 40 = l at *
  refine c1 (keep_Lend hs (by omega)) ?_
  intro s1 wb e2 L1
  have hs := hs.ext e2
  have e0 := e1.trans e2
  clear e1 e2
  obtain ⟨x, hX⟩ : ∃ x, vl W64 l = x := ⟨_, rfl⟩
  have N1 := L1.nt
  rw [hX] at hx N1
  have dx := dz_of_sz hx
  refine j1 (fun (n : Int) w' => n ≤ 6100 ∧ Ext none_ wb w') ?_ ?_
  · refine cnd_d (fun h => ?_) (fun h => ⟨by omega, Ext.refl _ _⟩)
    refine c1 (keep_Within (by decide) (by decide)) ?_
    rintro r w3 e3 ⟨hr0, hr1⟩
    refine bnd_wi (by omega) (by omega) ⟨by omega, e3⟩
  rintro n w4 ⟨hn, f4⟩
  refine c1 (law02_count (by decide)) ?_
  rintro r w5 e5 rfl
  rw [show (1048576 : Int).toNat = 1048576 by rfl]
  obtain ⟨N, hN⟩ : ∃ N, N = min n.toNat 1048576 := ⟨_, rfl⟩
  rw [← hN]
  have hN1 : N ≤ 6100 := by omega
  have h2N : sz (2 ^ N) ≤ 96 := sz_two (by omega)
  have hmul : sz (x * 2 ^ N) ≤ 136 := Nat.le_trans (sz_mul _ _) (by omega)
  have hdiv : sz (x / 2 ^ N) ≤ 40 := Nat.le_trans (sz_mono (Nat.div_le_self _ _)) (by omega)
  have hmod : sz (x % 2 ^ N) ≤ 40 := Nat.le_trans (sz_mono (Nat.mod_le _ _)) (by omega)
  have dmul := dz_of_sz hmul
  have ddiv := dz_of_sz hdiv
  have dmod := dz_of_sz hmod
  have f5 := f4.trans e5
  refine c1 (limb_Shl (N1.ext f5) (by omega)) ?_
  intro s2 w6 e6 h2
  refine c1 (limb_Shr (N1.ext (f5.trans e6)) (by omega)) ?_
  intro s3 w7 e7 h3
  refine c1 (limb_Low (N1.ext ((f5.trans e6).trans e7)) (by omega)) ?_
  intro s4 w8 e8 h4
  rw [← hN] at h2 h3 h4
  have b2 := fun c hc => (Ow.from_ h2 c hc).2
  have b3 := fun c hc => (Ow.from_ h3 c hc).2
  have h2 := (h2.ext e7).ext e8
  have h3 := h3.ext e8
  have f8 := ((f5.trans e6).trans e7).trans e8
  refine j1 (fun (b : Bool) w' => b = false ∧ Ext none_ w8 w') ?_ ?_
  · refine fr hs f8 (by omega) fun s5 w9 e9 f9 h5 => ?_
    rw [hX] at h5
    refine c1 (ref_Shl (n := N) h5.dr (by omega) (by omega)) ?_
    intro s6 w10 e10 h6
    have g10 := e9.trans e10
    refine sm h6.dr (h2.ext g10) (by omega) rfl fun w11 e11 => cnd_f rfl ?_
    have g11 := g10.trans e11
    refine fr hs (f8.trans g11) (by omega) fun s7 w12 e12 f12 h7 => ?_
    rw [hX] at h7
    refine c1 (ref_Shr (n := N) h7.dr (by omega) (by omega)) ?_
    intro s8 w13 e13 h8
    have g13 := (g11.trans e12).trans e13
    refine sm h8.dr (h3.ext g13) (by omega) rfl fun w14 e14 => cnd_f rfl ?_
    have g14 := g13.trans e14
    refine fr hs (f8.trans g14) (by omega) fun s9 w15 e15 f15 h9 => ?_
    rw [hX] at h9
    refine c1 (ref_Low (n := N) h9.dr (by omega) (by omega)) ?_
    intro s10 w16 e16 h10
    have g16 := (g14.trans e15).trans e16
    exact sm h10.dr (h4.ext g16) (by omega) rfl fun w17 e17 => ⟨rfl, g16.trans e17⟩
  rintro b w18 ⟨rfl, g18⟩
  refine cnd_f rfl ?_
  have h2 := h2.ext g18
  have h3 := h3.ext g18
  have h4 := h4.ext g18
  have f18 := f8.trans g18
  refine spl h2 f18 f5.size fun w19 f19 x19 => ?_
  have h3 := h3.extX x19 fun c hc h => by
    have := b2 c h
    have := Ow.blk_le h3 c hc
    omega
  have h4 := h4.extX x19 fun c hc h => by
    have := b2 c h
    have := Ow.blk_le h4 c hc
    have := e7.size
    omega
  refine spl h3 f19 (f5.trans e6).size fun w20 f20 x20 => ?_
  have h4 := h4.extX x20 fun c hc h => by
    have := b3 c h
    have := Ow.blk_le h4 c hc
    omega
  refine spl h4 f20 ((f5.trans e6).trans e7).size fun w21 f21 _ => ?_
  refine j1 (fun (b : Bool) w' => b = true ∧ Ext none_ wb w') ?_ ?_
  · exact tact L1 hs f21 (by omega) fun w27 f27 => cnd_t rfl (wk fun w29 e29 => ⟨rfl, f27.trans e29⟩)
  rintro b w30 ⟨rfl, f30⟩
  exact rt1 (c := .bool) _ (e0.trans f30) rfl
end Go.Proofs.Ythhohfgpaihngaa.Zg
