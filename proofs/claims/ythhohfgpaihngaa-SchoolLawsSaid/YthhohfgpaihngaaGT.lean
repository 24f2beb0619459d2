/- A part of the proofs of this seat's laws: words, lemmas or contracts of its functions. -/
import Derived.Test.YthhohfgpaihngaaGQ
import Derived.ProofKit
import Derived.OpenShut
set_option linter.unusedVariables false
set_option linter.unusedSimpArgs false
set_option linter.unnecessarySimpa false
section
namespace Go.Proofs.Ythhohfgpaihngaa.Zg
open Go.RowKit

theorem law02_from {w : TW} {s : Sl} {l : List Nat} (hs : Rd w s l) (hn : l.length ≤ 1048576) : Ct Pg F.zigguratlaw02_from [s.v] w none_ [.one .slice] fun (s' : Sl) w' => Dn w' w.w.heap.size s' (vl W64 l) := by
  refine Ct.zigguratlaw02_from ?_
  unfold Sh.zigguratlaw02_from
  have := hs.len
  refine c1 (ref_From hs.here.nt (by omega)) ?_
  intro s' w' e h
  exact rt1 (c := .slice) _ e h.at
/-- A call of the law's from. -/
theorem fr {w0 w : TW} {s : Sl} {l : List Nat} {K : Sl → TW → Prop} (h : Rd w0 s l) (e : Ext none_ w0 w) (hn : l.length ≤ 1048576) (hK : ∀ s' w', Ext none_ w w' → Ext none_ w0 w' → Dn w' w.w.heap.size s' (vl W64 l) → K s' w') : cl Pg F.zigguratlaw02_from [s.v] w [.one .slice] K := by
  refine c1 (law02_from (h.ext e) hn) ?_
  intro s' w' e' h'
  exact hK s' w' e' (e.trans e') h'
theorem law02_count {w : TW} {n m : Int} (hm : 0 ≤ m) : Ct Pg F.zigguratlaw02_count [.int .i64 n, .int .i64 m] w none_ [.one (.int .i64)] fun (r : Int) _ => r = (min n.toNat m.toNat : Nat) := by
  refine Ct.zigguratlaw02_count ?_
  unfold Sh.zigguratlaw02_count
  refine bnd_i (bnd_i (rt1 (c := .int .i64) _ (Ext.refl _ _) ?_))
  split <;> split <;> omega
/-- A call of Same. -/
theorem sm {w : TW} {s t : Sl} {B x y : Nat} {K : Bool → TW → Prop} (h : Dr w s x) (k : On w B t y) (hx : dz x ≤ 274877906944) (hxy : x = y) (hK : ∀ w', Ext none_ w w' → K true w') : cl Pg F.zigguratref02_Same [s.v, t.v] w [.one .bool] K := by
  refine c1 (ref_Same h k.rd hx hxy) ?_
  rintro r w' e rfl
  exact hK w' e
theorem wk {w : TW} {K : Bool → TW → Prop} (hK : ∀ w', Ext none_ w w' → K true w') : cl Pg F.zigguratlaw02_wakes [] w [.one .bool] K := by
  refine c1 law02_wakes ?_
  rintro r w' e rfl
  exact hK w' e
/-- A call of Intact. -/
theorem tact {w0 w : TW} {B : Nat} {s a : Sl} {l : List Nat} {K : Bool → TW → Prop} (hs : Lent w0 B s l) (ha : Rd w0 a l) (e : Ext none_ w0 w) (hn : l.length ≤ 1048576) (hK : ∀ w', Ext none_ w0 w' → K true w') : cl Pg F.zigguratkeep_Intact [s.v, a.v] w [.one .bool] K := by
  refine c1 (keep_Intact (hs.ext e) (ha.ext e) (by omega)) ?_
  rintro r w' e' rfl
  exact hK w' (e.trans e')

theorem dz_of_sz {x k : Nat} (h : sz x ≤ k) : dz x ≤ 2 * k := Nat.le_trans (dz_sz x) (Nat.mul_le_mul_left _ h)

theorem law02_LimbAdds {w : TW} {a b : Sl} (ha : Arg w a) (hb : Arg w b) : Ct Pg F.zigguratlaw02_LimbAdds [a.v, b.v] w none_ [.one .bool] fun (r : Bool) _ => r = true := by
  obtain ⟨la, ha⟩ := ha
  obtain ⟨lb, hb⟩ := hb
  refine Ct.zigguratlaw02_LimbAdds ?_
  unfold Sh.zigguratlaw02_LimbAdds
  refine cutc (n := 60) ha.here rfl fun s w1 e1 hs _ => cutc (n := 60) (hb.here.ext e1) rfl fun t w2 e2 ht _ => ?_
  have hs := hs.ext e2
  have hx := sz_vl hs.sm
  have hy := sz_vl ht.sm
  have hla : (la.take 60).length ≤ 60 := by simp; omega
  have hlb : (lb.take 60).length ≤ 60 := by simp; omega
  generalize la.take 60 = l at *
  generalize lb.take 60 = m at *
  refine c1 (keep_Lend hs (by omega)) ?_
  intro s2 w3 e3 L1
  refine c1 (keep_Lend (ht.ext e3) (by omega)) ?_
  intro s3 wb e4 L2
  have hs := hs.ext (e3.trans e4)
  have ht := ht.ext (e3.trans e4)
  have L1 := L1.ext e4
  have e0 := ((e1.trans e2).trans e3).trans e4
  clear e1 e2 e3 e4
  obtain ⟨x, hX⟩ : ∃ x, vl W64 l = x := ⟨_, rfl⟩
  obtain ⟨y, hY⟩ : ∃ y, vl W64 m = y := ⟨_, rfl⟩
  have N1 := L1.nt
  have N2 := L2.nt
  rw [hX] at hx N1
  rw [hY] at hy N2
  have hadd := sz_add x y
  have dx := dz_of_sz hx
  have dy := dz_of_sz hy
  have dxy := dz_of_sz hadd
  refine c1 (limb_Add N1 N2 (by omega) (by omega)) ?_
  intro s4 w5 e5 h4
  have b4 := fun c hc => (Ow.from_ h4 c hc).2
  refine c2 (limb_Sub (N1.ext e5) (N2.ext e5) (by omega)) ?_
  rintro s5 ok w6 e6 ⟨rfl, h5⟩
  have h4 := h4.ext e6
  refine fr hs (e5.trans e6) (by omega) fun s6 w7 e7 f7 h6 => fr ht f7 (by omega) fun s7 w8 e8 f8 h7 => ?_
  have h4 := (h4.ext e7).ext e8
  have h5 := (h5.ext e7).ext e8
  rw [hX] at h6
  rw [hY] at h7
  refine c1 (ref_Cmp (h6.ext e8).dr h7.dr) ?_
  rintro r w9 e9 rfl
  have h4 := h4.ext e9
  have h5 := h5.ext e9
  have f9 := f8.trans e9
  refine j1 (fun (b : Bool) w' => b = false ∧ On w' wb.w.heap.size s4 (x + y) ∧ On w' w5.w.heap.size s5 (x - y) ∧ Ext none_ wb w') ?_ ?_
  · refine fr hs f9 (by omega) fun s8 w10 e10 f10 h8 => fr ht f10 (by omega) fun s9 w11 e11 f11 h9 => ?_
    rw [hX] at h8
    rw [hY] at h9
    have h4 := (h4.ext e10).ext e11
    have h5 := (h5.ext e10).ext e11
    refine c1 (ref_Add (h8.ext e11).dr h9.dr (by omega) (by omega)) ?_
    intro s10 w12 e12 h10
    refine sm h10.dr (h4.ext e12) (by omega) rfl fun w13 e13 => cnd_f rfl ?_
    have f13 := (f11.trans e12).trans e13
    refine c1 (limb_Cmp (N1.ext f13) (N2.ext f13)) ?_
    rintro r w14 e14 rfl
    refine cnd_f (by simp) ⟨?_, ((h4.ext e12).ext e13).ext e14, ((h5.ext e12).ext e13).ext e14, f13.trans e14⟩
    have : (cmpN x y ≥ 0) ↔ y ≤ x := by
      have := @cmpN_neg x y
      omega
    simp [this]
  rintro b w15 ⟨rfl, h4, h5, f15⟩
  refine cnd_f rfl ?_
  refine j1 (fun (b : Bool) w' => b = false ∧ On w' wb.w.heap.size s4 (x + y) ∧ On w' w5.w.heap.size s5 (x - y) ∧ Ext none_ wb w') ?_ ?_
  · refine cnd_d (fun hle => ?_) (fun hle => ?_)
    · refine fr hs f15 (by omega) fun s11 w16 e16 f16 h11 => fr ht f16 (by omega) fun s12 w17 e17 f17 h12 => ?_
      rw [hX] at h11
      rw [hY] at h12
      have h4 := (h4.ext e16).ext e17
      have h5 := (h5.ext e16).ext e17
      refine c1 (ref_Sub (h11.ext e17).dr h12.dr (by omega) hle) ?_
      intro s13 w18 e18 h13
      refine sm h13.dr (h5.ext e18) (by have := dz_mono (Nat.sub_le x y); omega) rfl fun w19 e19 => cnd_f rfl (cnd_f (by simp [hle]) ?_)
      exact ⟨rfl, (h4.ext e18).ext e19, (h5.ext e18).ext e19, (f17.trans e18).trans e19⟩
    · refine cnd_t (by simp [hle]) ⟨?_, h4, h5, f15⟩
      have := h5.len
      rw [show x - y = 0 by omega, sz0] at this
      simp [this]
  rintro b w20 ⟨rfl, h4, h5, f20⟩
  refine cnd_f rfl ?_
  have b4' := fun c hc => (Ow.from_ h4 c hc).2
  have b5' := fun c hc => (Ow.from_ h5 c hc).2
  refine c1 (limb_Norm (N1.ext f20) (by omega)) ?_
  intro s14 w21 e21 h14
  have h4 := h4.ext e21
  have h5 := h5.ext e21
  have f21 := f20.trans e21
  have h45 : ∀ c, s5.blk = some c → ¬ s4.blk = some c := fun c hc h => by
    have := b4 c h
    have := Ow.blk_le h5 c hc
    omega
  have h4_14 : ∀ c, s14.blk = some c → ¬ s4.blk = some c := fun c hc h => by
    have := b4' c h
    have := Ow.blk_le h14 c hc
    omega
  have h5_14 : ∀ c, s14.blk = some c → ¬ s5.blk = some c := fun c hc h => by
    have := b5' c h
    have := Ow.blk_le h14 c hc
    omega
  refine spl h4 f21 (Nat.le_refl _) fun w22 f22 x22 => ?_
  have h5 := h5.extX x22 h45
  have h14 := h14.extX x22 h4_14
  refine spl h5 f22 e5.size fun w23 f23 x23 => ?_
  have h14 := h14.extX x23 h5_14
  refine fr hs f23 (by omega) fun s15 w24 e24 f24 h15 => ?_
  rw [hX] at h15
  refine sm h15.dr (h14.ext e24) (by omega) rfl fun w25 e25 => cnd_f rfl ?_
  refine spl ((h14.ext e24).ext e25) (f24.trans e25) f20.size fun w26 f26 _ => ?_
  refine j1 (fun (b : Bool) w' => b = true ∧ Ext none_ wb w') ?_ ?_
  · refine tact L1 hs f26 (by omega) fun w27 f27 => cnd_t rfl (tact L2 ht f27 (by omega) fun w28 f28 => cnd_t rfl (wk fun w29 e29 => ⟨rfl, f28.trans e29⟩))
  rintro b w30 ⟨rfl, f30⟩
  exact rt1 (c := .bool) _ (e0.trans f30) rfl
end Go.Proofs.Ythhohfgpaihngaa.Zg
end

section
namespace Go.Proofs.Ythhohfgpaihngaa.Zg
open Go.RowKit

theorem cmp_ge {x y : Nat} : decide (cmpN x y ≥ 0) = decide (y ≤ x) := by
  rw [Bool.eq_iff_iff, decide_eq_true_iff, decide_eq_true_iff]
  have := @cmpN_neg x y
  omega

theorem law02_LimbWords {w : TW} {a b : Sl} {y : Nat} (ha : Arg w a) (hb : Arg w b) (hy : y < W64) : Ct Pg F.zigguratlaw02_LimbWords [a.v, b.v, .int .u64 y] w none_ [.one .bool] fun (r : Bool) _ => r = true := by
  obtain ⟨la, ha⟩ := ha
  obtain ⟨lb, hb⟩ := hb
  refine Ct.zigguratlaw02_LimbWords ?_
  unfold Sh.zigguratlaw02_LimbWords
  refine cutc (n := 50) ha.here rfl fun s w1 e1 hs _ => cutc (n := 50) (hb.here.ext e1) rfl fun t w2 e2 ht _ => ?_
  have hs := hs.ext e2
  have hx := sz_vl hs.sm
  have hz := sz_vl ht.sm
  have hla : (la.take 50).length ≤ 50 := by simp; omega
  have hlb : (lb.take 50).length ≤ 50 := by simp; omega
  generalize la.take 50 = l at *
  generalize lb.take 50 = m at *
  refine c1 (keep_Lend hs (by omega)) ?_
  intro s2 w3 e3 L1
  refine c1 (keep_Lend (ht.ext e3) (by omega)) ?_
  intro s3 wb e4 L2
  have hs := hs.ext (e3.trans e4)
  have ht := ht.ext (e3.trans e4)
  have L1 := L1.ext e4
  have e0 := ((e1.trans e2).trans e3).trans e4
  clear e1 e2 e3 e4
  obtain ⟨x, hX⟩ : ∃ x, vl W64 l = x := ⟨_, rfl⟩
  obtain ⟨z, hZ⟩ : ∃ z, vl W64 m = z := ⟨_, rfl⟩
  have N1 := L1.nt
  have N2 := L2.nt
  rw [hX] at hx N1
  rw [hZ] at hz N2
  have hzy : sz (z * y) ≤ 51 := Nat.le_trans (sz_mul _ _) (by have := sz_word hy; omega)
  have hadd := sz_add x (z * y)
  have dx := dz_of_sz hx
  have dz' := dz_of_sz hz
  have dzy := dz_of_sz hzy
  have dy := dz_of_sz (sz_word hy)
  have dadd := dz_of_sz hadd
  refine fr ht (Ext.refl _ _) (by omega) fun s4 w5 _ f5 h4 => ?_
  rw [hZ] at h4
  refine c1 (ref_Small hy) ?_
  intro s5 w6 e6 h5
  refine c1 (ref_Mul (h4.ext e6).dr h5.dr (by omega) (by omega)) ?_
  intro s6 w7 e7 h6
  have f7 := (f5.trans e6).trans e7
  refine j1 (fun (b : Bool) w' => b = false ∧ Ext none_ w7 w') ?_ ?_
  · refine c1 (limb_MulWord (N2.ext f7) hy (by omega)) ?_
    intro s7 w8 e8 h7
    refine sm (h6.ext e8).dr h7 (by omega) rfl fun w9 e9 => cnd_f rfl ?_
    refine fr hs ((f7.trans e8).trans e9) (by omega) fun s8 w10 e10 f10 h8 => ?_
    rw [hX] at h8
    refine c1 (ref_Add h8.dr (((h6.ext e8).ext e9).ext e10).dr (by omega) (by omega)) ?_
    intro s9 w11 e11 h9
    refine c1 (limb_AddMul (N1.ext (f10.trans e11)) (N2.ext (f10.trans e11)) hy (by omega) (by omega)) ?_
    intro s10 w12 e12 h10
    refine sm (h9.ext e12).dr h10 (by omega) rfl fun w13 e13 => ⟨rfl, ((((e8.trans e9).trans e10).trans e11).trans e12).trans e13⟩
  rintro b w14 ⟨rfl, g14⟩
  have f14 := f7.trans g14
  have h6 := h6.ext g14
  refine cnd_f rfl ?_
  refine c2 (limb_SubMul (N1.ext f14) (N2.ext f14) hy (by omega) (by omega)) ?_
  rintro s11 ok w15 e15 ⟨rfl, h11⟩
  refine fr hs (f14.trans e15) (by omega) fun s12 w16 e16 f16 h12 => ?_
  rw [hX] at h12
  have h6 := (h6.ext e15).ext e16
  have h11 := h11.ext e16
  refine c1 (ref_Cmp h12.dr h6.dr) ?_
  rintro r w17 e17 rfl
  have h6 := h6.ext e17
  have h11 := h11.ext e17
  have f17 := f16.trans e17
  refine cnd_f (by rw [cmp_ge]; simp) ?_
  refine j1 (fun (b : Bool) w' => b = false ∧ Ext none_ wb w') ?_ ?_
  · refine cnd_d (fun hle => ?_) (fun hle => ?_)
    · refine fr hs f17 (by omega) fun s13 w18 e18 f18 h13 => ?_
      rw [hX] at h13
      refine c1 (ref_Sub h13.dr (h6.ext e18).dr (by omega) hle) ?_
      intro s14 w19 e19 h14
      exact sm h14.dr ((h11.ext e18).ext e19) (by have := dz_mono (Nat.sub_le x (z * y)); omega) rfl fun w20 e20 => cnd_f rfl (cnd_f (by simp [hle]) ⟨rfl, (f18.trans e19).trans e20⟩)
    · refine cnd_t (by simp [hle]) ⟨?_, f17⟩
      have := h11.len
      rw [show x - z * y = 0 by omega, sz0] at this
      simp [this]
  rintro b w21 ⟨rfl, f21⟩
  refine cnd_f rfl ?_
  refine j1 (fun (b : Bool) w' => b = true ∧ Ext none_ wb w') ?_ ?_
  · exact tact L1 hs f21 (by omega) fun w27 f27 => cnd_t rfl (tact L2 ht f27 (by omega) fun w28 f28 => cnd_t rfl (wk fun w29 e29 => ⟨rfl, f28.trans e29⟩))
  rintro b w30 ⟨rfl, f30⟩
  exact rt1 (c := .bool) _ (e0.trans f30) rfl

theorem law02_LimbShifts {w : TW} {a : Sl} {n : Int} (ha : Arg w a) (_ : -9223372036854775808 ≤ n ∧ n ≤ 9223372036854775807) : Ct Pg F.zigguratlaw02_LimbShifts [a.v, .int .i64 n] w none_ [.one .bool] fun (r : Bool) _ => r = true := by
  obtain ⟨la, ha⟩ := ha
  refine Ct.zigguratlaw02_LimbShifts ?_
  unfold Sh.zigguratlaw02_LimbShifts
  refine cutc (n := 40) ha.here rfl fun s w1 e1 hs _ => ?_
  have hx := sz_vl hs.sm
  have hla : (la.take 40).length ≤ 40 := by simp; omega
  generalize la.take 40 = l at *
  refine c1 (keep_Lend hs (by omega)) ?_
  intro s1 wb e2 L1
  have hs := hs.ext e2
  have e0 := e1.trans e2
  clear e1 e2
  obtain ⟨x, hX⟩ : ∃ x, vl W64 l = x := ⟨_, rfl⟩
  have N1 := L1.nt
  rw [hX] at hx N1
  have dx := dz_of_sz hx
  refine j1 (fun (n : Int) w' => n ≤ 6100 ∧ Ext none_ wb w') ?_ ?_
  · refine cnd_d (fun h => ?_) (fun h => ⟨by omega, Ext.refl _ _⟩)
    refine c1 (keep_Within (by decide) (by decide)) ?_
    rintro r w3 e3 ⟨hr0, hr1⟩
    refine bnd_wi (by omega) (by omega) ⟨by omega, e3⟩
  rintro n w4 ⟨hn, f4⟩
  refine c1 (law02_count (by decide)) ?_
  rintro r w5 e5 rfl
  rw [show (1048576 : Int).toNat = 1048576 by rfl]
  obtain ⟨N, hN⟩ : ∃ N, N = min n.toNat 1048576 := ⟨_, rfl⟩
  rw [← hN]
  have hN1 : N ≤ 6100 := by omega
  have h2N : sz (2 ^ N) ≤ 96 := sz_two (by omega)
  have hmul : sz (x * 2 ^ N) ≤ 136 := Nat.le_trans (sz_mul _ _) (by omega)
  have hdiv : sz (x / 2 ^ N) ≤ 40 := Nat.le_trans (sz_mono (Nat.div_le_self _ _)) (by omega)
  have hmod : sz (x % 2 ^ N) ≤ 40 := Nat.le_trans (sz_mono (Nat.mod_le _ _)) (by omega)
  have dmul := dz_of_sz hmul
  have ddiv := dz_of_sz hdiv
  have dmod := dz_of_sz hmod
  have f5 := f4.trans e5
  refine c1 (limb_Shl (N1.ext f5) (by omega)) ?_
  intro s2 w6 e6 h2
  refine c1 (limb_Shr (N1.ext (f5.trans e6)) (by omega)) ?_
  intro s3 w7 e7 h3
  refine c1 (limb_Low (N1.ext ((f5.trans e6).trans e7)) (by omega)) ?_
  intro s4 w8 e8 h4
  rw [← hN] at h2 h3 h4
  have b2 := fun c hc => (Ow.from_ h2 c hc).2
  have b3 := fun c hc => (Ow.from_ h3 c hc).2
  have h2 := (h2.ext e7).ext e8
  have h3 := h3.ext e8
  have f8 := ((f5.trans e6).trans e7).trans e8
  refine j1 (fun (b : Bool) w' => b = false ∧ Ext none_ w8 w') ?_ ?_
  · refine fr hs f8 (by omega) fun s5 w9 e9 f9 h5 => ?_
    rw [hX] at h5
    refine c1 (ref_Shl (n := N) h5.dr (by omega) (by omega)) ?_
    intro s6 w10 e10 h6
    have g10 := e9.trans e10
    refine sm h6.dr (h2.ext g10) (by omega) rfl fun w11 e11 => cnd_f rfl ?_
    have g11 := g10.trans e11
    refine fr hs (f8.trans g11) (by omega) fun s7 w12 e12 f12 h7 => ?_
    rw [hX] at h7
    refine c1 (ref_Shr (n := N) h7.dr (by omega) (by omega)) ?_
    intro s8 w13 e13 h8
    have g13 := (g11.trans e12).trans e13
    refine sm h8.dr (h3.ext g13) (by omega) rfl fun w14 e14 => cnd_f rfl ?_
    have g14 := g13.trans e14
    refine fr hs (f8.trans g14) (by omega) fun s9 w15 e15 f15 h9 => ?_
    rw [hX] at h9
    refine c1 (ref_Low (n := N) h9.dr (by omega) (by omega)) ?_
    intro s10 w16 e16 h10
    have g16 := (g14.trans e15).trans e16
    exact sm h10.dr (h4.ext g16) (by omega) rfl fun w17 e17 => ⟨rfl, g16.trans e17⟩
  rintro b w18 ⟨rfl, g18⟩
  refine cnd_f rfl ?_
  have h2 := h2.ext g18
  have h3 := h3.ext g18
  have h4 := h4.ext g18
  have f18 := f8.trans g18
  refine spl h2 f18 f5.size fun w19 f19 x19 => ?_
  have h3 := h3.extX x19 fun c hc h => by
    have := b2 c h
    have := Ow.blk_le h3 c hc
    omega
  have h4 := h4.extX x19 fun c hc h => by
    have := b2 c h
    have := Ow.blk_le h4 c hc
    have := e7.size
    omega
  refine spl h3 f19 (f5.trans e6).size fun w20 f20 x20 => ?_
  have h4 := h4.extX x20 fun c hc h => by
    have := b3 c h
    have := Ow.blk_le h4 c hc
    omega
  refine spl h4 f20 ((f5.trans e6).trans e7).size fun w21 f21 _ => ?_
  refine j1 (fun (b : Bool) w' => b = true ∧ Ext none_ wb w') ?_ ?_
  · exact tact L1 hs f21 (by omega) fun w27 f27 => cnd_t rfl (wk fun w29 e29 => ⟨rfl, f27.trans e29⟩)
  rintro b w30 ⟨rfl, f30⟩
  exact rt1 (c := .bool) _ (e0.trans f30) rfl
end Go.Proofs.Ythhohfgpaihngaa.Zg
end

section
namespace Go.Proofs.Ythhohfgpaihngaa.Zg
open Go.RowKit

theorem law02_LimbSplits {w : TW} {a : Sl} {k : Int} (ha : Arg w a) (_ : -9223372036854775808 ≤ k ∧ k ≤ 9223372036854775807) : Ct Pg F.zigguratlaw02_LimbSplits [a.v, .int .i64 k] w none_ [.one .bool] fun (r : Bool) _ => r = true := by
  obtain ⟨la, ha⟩ := ha
  refine Ct.zigguratlaw02_LimbSplits ?_
  unfold Sh.zigguratlaw02_LimbSplits
  refine cutc (n := 50) ha.here rfl fun s w1 e1 hs _ => ?_
  have hx := sz_vl hs.sm
  have hla : (la.take 50).length ≤ 50 := by simp; omega
  generalize la.take 50 = l at *
  refine c1 (keep_Lend hs (by omega)) ?_
  intro s1 wb e2 L1
  have hs := hs.ext e2
  have e0 := e1.trans e2
  clear e1 e2
  obtain ⟨x, hX⟩ : ∃ x, vl W64 l = x := ⟨_, rfl⟩
  have N1 := L1.nt
  rw [hX] at hx N1
  have dx := dz_of_sz hx
  refine c2 (limb_Split (k := k) N1 (by omega)) ?_
  rintro s2 s3 w3 e3 ⟨h2, h3, hne⟩
  refine c1 (law02_count (by decide)) ?_
  rintro r w4 e4 rfl
  rw [show (16384 : Int).toNat = 16384 by rfl]
  obtain ⟨N, hN⟩ : ∃ N, N = min k.toNat 16384 := ⟨_, rfl⟩
  rw [← hN] at h2 h3 ⊢
  have hN1 : N ≤ 16384 := by omega
  have hpw : 2 ^ (64 * N) = W64 ^ N := by rw [w_pow, Nat.pow_mul]
  have hdiv : sz (x / W64 ^ N) ≤ 50 := Nat.le_trans (sz_mono (Nat.div_le_self _ _)) (by omega)
  have hmod : sz (x % W64 ^ N) ≤ 50 := Nat.le_trans (sz_mono (Nat.mod_le _ _)) (by omega)
  have ddiv := dz_of_sz hdiv
  have dmod := dz_of_sz hmod
  have f4 := e3.trans e4
  have h2 := h2.ext e4
  have h3 := h3.ext e4
  refine j1 (fun (b : Bool) w' => b = false ∧ Ext none_ w4 w') ?_ ?_
  · refine fr hs f4 (by omega) fun s5 w5 e5 f5 h5 => bnd_wi (by omega) (by omega) ?_
    rw [hX] at h5
    refine c1 (ref_Low (s := s5) (n := 64 * N) h5.dr (by omega) (by omega)) ?_
    intro s6 w6 e6 h6
    rw [hpw] at h6
    have g6 := e5.trans e6
    refine sm h6.dr (h2.ext g6) (by omega) rfl fun w7 e7 => cnd_f rfl ?_
    have g7 := g6.trans e7
    refine fr hs (f4.trans g7) (by omega) fun s8 w8 e8 f8 h8 => bnd_wi (by omega) (by omega) ?_
    rw [hX] at h8
    refine c1 (ref_Shr (s := s8) (n := 64 * N) h8.dr (by omega) (by omega)) ?_
    intro s9 w9 e9 h9
    rw [hpw] at h9
    have g9 := (g7.trans e8).trans e9
    exact sm h9.dr (h3.ext g9) (by omega) rfl fun w10 e10 => ⟨rfl, g9.trans e10⟩
  rintro b w11 ⟨rfl, g11⟩
  refine cnd_f rfl ?_
  have h2 := h2.ext g11
  have h3 := h3.ext g11
  have f11 := f4.trans g11
  refine nw_rs (ss := [s2, s3]) (xs := [x % W64 ^ N, x / W64 ^ N]) 2 rfl rfl (by decide) ?_ fun b4 w12 h12 e12 => ?_
  · intro i t ht
    match i with
    | 0 => simp at ht; subst ht; exact h2.nt
    | 1 => simp at ht; subst ht; exact h3.nt
    | i + 2 => simp at ht
  refine c1 (limb_Join (k := k) (s := ⟨some ⟨b4, 0, none⟩, 2, 2⟩) (xs := [x % W64 ^ N, x / W64 ^ N]) h12 (by simp) ?_) ?_
  · intro t
    match t with
    | 0 => exact Nat.le_trans hmod (by decide)
    | 1 => exact Nat.le_trans hdiv (by decide)
    | t + 2 => simp [sz0]
  intro s8 w13 e13 h13
  rw [← hN] at h13
  have h2 := (h2.ext e12).ext e13
  have h3 := (h3.ext e12).ext e13
  have f13 := (f11.trans e12).trans e13
  refine j1 (fun (b : Bool) w' => b = false ∧ Ext none_ w13 w') ?_ ?_
  · refine cnd_d (fun h0 => ?_) (fun h0 => ⟨rfl, Ext.refl _ _⟩)
    refine c1 (limb_Cmp h13.nt (N1.ext f13)) ?_
    rintro r w14 e14 rfl
    refine ⟨?_, e14⟩
    have : vl (W64 ^ N) [x % W64 ^ N, x / W64 ^ N] = x := by simp only [vl_cons, vl_nil, Nat.mul_zero, Nat.add_zero]; exact Nat.mod_add_div x (W64 ^ N)
    rw [this, cmpN_eq.2 rfl]
    rfl
  rintro b w15 ⟨rfl, g15⟩
  refine cnd_f rfl ?_
  have h2 := h2.ext g15
  have h3 := h3.ext g15
  have f15 := f13.trans g15
  refine spl h2 f15 (Nat.le_refl _) fun w16 f16 x16 => ?_
  have h3 := h3.extX x16 hne
  refine spl h3 f16 (Nat.le_refl _) fun w17 f17 _ => ?_
  refine j1 (fun (b : Bool) w' => b = true ∧ Ext none_ wb w') ?_ ?_
  · exact tact L1 hs f17 (by omega) fun w27 f27 => cnd_t rfl (wk fun w29 e29 => ⟨rfl, f27.trans e29⟩)
  rintro b w30 ⟨rfl, f30⟩
  exact rt1 (c := .bool) _ (e0.trans f30) rfl

/-- A row of rows that came in. -/
def ArgL (w : TW) (s : Sl) : Prop := ∃ ls, Rl w s ls

theorem law02_LimbSums {w : TW} {a : Sl} {y : Nat} (ha : ArgL w a) (hy : y < W64) : Ct Pg F.zigguratlaw02_LimbSums [a.v, .int .u64 y] w none_ [.one .bool] fun (r : Bool) _ => r = true := by
  obtain ⟨la, ha⟩ := ha
  refine Ct.zigguratlaw02_LimbSums ?_
  unfold Sh.zigguratlaw02_LimbSums
  refine c1 (keep_Cuts (k := 12) (n := 20) ha.here (by decide)) ?_
  intro s w1 e1 hs
  have hlen : ((la.take 12).map (List.take 20)).length ≤ 12 := by simp; omega
  have hmem : ∀ l ∈ (la.take 12).map (List.take 20), l.length ≤ 20 := fun l hl => by
    obtain ⟨m, _, rfl⟩ := List.mem_map.1 hl
    simp; omega
  generalize (la.take 12).map (List.take 20) = ls at *
  have hsm : ∀ l ∈ ls, Sm W64 l := fun l hl => by
    obtain ⟨ss, h1, h2, h3⟩ := hs
    obtain ⟨i, hi, rfl⟩ := List.getElem_of_mem hl
    have := (h3 i ss[i] (by simp [h2, hi])).sm
    simpa [hi] using this
  have hszs : ∀ t, sz ((ls.map (vl W64)).getD t 0) ≤ 20 := fun t => by
    rw [getD_map_vl]
    rcases Nat.lt_or_ge t ls.length with h | h
    · have hm : ls.getD t [] ∈ ls := by simp [h]
      exact Nat.le_trans (sz_vl (hsm _ hm)) (hmem _ hm)
    · simp [h, vl, sz0]
  have hsum : sz (ls.map (vl W64)).sum ≤ 21 := by
    refine sz_pow (Nat.lt_of_le_of_lt (sum_lt (k := 20) fun x hx => ?_) ?_)
    · obtain ⟨l, hl, rfl⟩ := List.mem_map.1 hx
      exact Nat.lt_of_lt_of_le (vl_lt (hsm l hl)) (Nat.pow_le_pow_right (by decide) (hmem l hl))
    · rw [show 21 = 20 + 1 by rfl, Nat.pow_succ, Nat.mul_comm]
      have h0 : 0 < W64 ^ 20 := Nat.pow_pos (by decide)
      exact Nat.mul_lt_mul_of_pos_left (by rw [w64]; simp; omega) h0
  have dsum := dz_of_sz hsum
  refine j1 (fun (b : Bool) w' => b = true ∧ Ext none_ w1 w') ?_ ?_
  · refine c1 (keep_Nats hs (by omega)) ?_
    intro s1 w2 e2 h1
    refine c1 (ref_Sum (k := 20) h1 (by omega) (by decide) hmem hsm) ?_
    intro s2 w3 e3 h2
    refine c1 (keep_Nats ((hs.ext e2).ext e3) (by omega)) ?_
    intro s3 w4 e4 h3
    refine c1 (limb_Sum h3.rs (by simp; omega) fun t => by have := hszs t; omega) ?_
    intro s4 w5 e5 h4
    refine sm ((h2.ext e4).ext e5).dr h4 (by omega) rfl fun w6 e6 => cnd_t rfl ?_
    refine c1 (ref_Small hy) ?_
    intro s5 w7 e7 h5
    refine c1 (limb_One hy) ?_
    intro s6 w8 e8 h6
    refine sm (h5.ext e8).dr h6 (by have := dz_of_sz (sz_word hy); omega) rfl fun w9 e9 => cnd_t rfl (wk fun w10 e10 => ⟨rfl, (((((((e2.trans e3).trans e4).trans e5).trans e6).trans e7).trans e8).trans e9).trans e10⟩)
  rintro b w30 ⟨rfl, f30⟩
  exact rt1 (c := .bool) _ (e1.trans f30) rfl
end Go.Proofs.Ythhohfgpaihngaa.Zg
end

section
namespace Go.Proofs.Ythhohfgpaihngaa.Zg
open Go.RowKit

theorem sz_joined {r : Nat} (hr : r ≤ 40) : ∀ ys : List Nat, (∀ y ∈ ys, sz y ≤ 12) → sz (vl (W64 ^ r) ys) ≤ 53 * ys.length
  | [], _ => by simp [vl, sz0]
  | y :: ys, h => by
    have ih := sz_joined hr ys fun z hz => h z (List.mem_cons_of_mem _ hz)
    have h1 := h y (List.mem_cons_self ..)
    have h2 : sz (W64 ^ r) ≤ r + 1 := sz_pow (Nat.pow_lt_pow_right (by decide) (Nat.lt_succ_self r))
    have h3 := sz_mul (W64 ^ r) (vl (W64 ^ r) ys)
    have h4 := sz_add y (W64 ^ r * vl (W64 ^ r) ys)
    rw [vl_cons, List.length_cons]
    omega

theorem law02_LimbJoins {w : TW} {a : Sl} {k : Int} (_ : -9223372036854775808 ≤ k ∧ k ≤ 9223372036854775807) (ha : ArgL w a) : Ct Pg F.zigguratlaw02_LimbJoins [.int .i64 k, a.v] w none_ [.one .bool] fun (r : Bool) _ => r = true := by
  obtain ⟨la, ha⟩ := ha
  refine Ct.zigguratlaw02_LimbJoins ?_
  unfold Sh.zigguratlaw02_LimbJoins
  refine c1 (keep_Cuts (k := 8) (n := 12) ha.here (by decide)) ?_
  intro s w1 e1 hs
  have hlen : ((la.take 8).map (List.take 12)).length ≤ 8 := by simp; omega
  have hmem : ∀ l ∈ (la.take 8).map (List.take 12), l.length ≤ 12 := fun l hl => by
    obtain ⟨m, _, rfl⟩ := List.mem_map.1 hl
    simp; omega
  generalize (la.take 8).map (List.take 12) = ls at *
  have hsm : ∀ l ∈ ls, Sm W64 l := fun l hl => by
    obtain ⟨ss, h1, h2, h3⟩ := hs
    obtain ⟨i, hi, rfl⟩ := List.getElem_of_mem hl
    have := (h3 i ss[i] (by simp [h2, hi])).sm
    simpa [hi] using this
  have hszs : ∀ y ∈ ls.map (vl W64), sz y ≤ 12 := fun y hy => by
    obtain ⟨l, hl, rfl⟩ := List.mem_map.1 hy
    exact Nat.le_trans (sz_vl (hsm l hl)) (hmem l hl)
  have hszd : ∀ t, sz ((ls.map (vl W64)).getD t 0) ≤ 12 := fun t => by
    rcases Nat.lt_or_ge t (ls.map (vl W64)).length with h | h
    · have h1 : (ls.map (vl W64)).getD t 0 = (ls.map (vl W64))[t] := by rw [List.getD_eq_getElem?_getD, List.getElem?_eq_getElem h]; rfl
      rw [h1]; exact hszs _ (List.getElem_mem h)
    · rw [getD_past h, sz0]; omega
  have hl := hs.len
  refine j1 (fun (k : Int) w' => k ≤ 40 ∧ Ext none_ w1 w') ?_ ?_
  · refine cnd_d (fun h => ?_) (fun h => ⟨by omega, Ext.refl _ _⟩)
    refine c1 (keep_Within (by decide) (by decide)) ?_
    rintro r w3 e3 ⟨hr0, hr1⟩
    exact ⟨by omega, e3⟩
  rintro k w3 ⟨hk, f3⟩
  obtain ⟨N, hN⟩ : ∃ N, N = min k.toNat 40 := ⟨_, rfl⟩
  have hN1 : N ≤ 40 := by omega
  have hN2 : min k.toNat 16384 = N := by omega
  have hpw : 2 ^ (64 * N) = W64 ^ N := by rw [w_pow, Nat.pow_mul]
  refine bnd_wi (by omega) (by omega) ?_
  obtain ⟨xs, hxs⟩ : ∃ xs, ls.map (vl W64) = xs := ⟨_, rfl⟩
  have hxl : xs.length = ls.length := by rw [← hxs]; simp
  rw [hxs] at hszs hszd
  have hd : ∀ j, sz (vl (W64 ^ N) (xs.drop j)) ≤ 424 := fun j => by
    refine Nat.le_trans (sz_joined hN1 _ fun y hy => hszs y (List.mem_of_mem_drop hy)) ?_
    simp; omega
  refine j1 (fun (o : Sl) w' => Dn w' w1.w.heap.size o (vl (W64 ^ N) xs) ∧ Ext none_ w1 w') ?_ ?_
  · refine lp2 (fun m (o : Sl) (i : Int) w' => ∃ j : Nat, i = j - 1 ∧ m = j ∧ j ≤ ls.length ∧ Dn w' w1.w.heap.size o (vl (W64 ^ N) (xs.drop j)) ∧ Ext none_ w1 w') ls.length ⟨ls.length, by omega, rfl, Nat.le_refl _, by rw [List.drop_of_length_le (by omega)]; exact Dn.nil _ _, f3⟩ ?_
    rintro m o i w' ⟨j, rfl, rfl, hj, ho, f⟩
    refine cnd_d (fun h => ?_) (fun h => ?_)
    · obtain ⟨j, rfl⟩ : ∃ j, m = j + 1 := ⟨m - 1, by omega⟩
      refine hs.idx f.drew (j := j) (by omega) (by omega) fun a1 t ka ht => ?_
      refine c1 (law02_count (by decide)) ?_
      rintro r w5 e5 rfl
      rw [show (40 : Int).toNat = 40 by rfl, ← hN]
      have f5 := f.drew.trans e5
      refine hld1 (ka _ f5) (bnd_wi (by omega) (by omega) ?_)
      have hdj := hd (j + 1)
      have ho : Dn w5 w1.w.heap.size o _ := Ow.ext (Ow.drew ho) e5
      refine c1 (ref_Shl (s := o) (n := 64 * N) ho.dr (by have := dz_of_sz hdj; omega) (by omega)) ?_
      intro s1 w6 e6 h1
      have f6 := f5.trans e6
      refine hld1 (ka _ f6) ?_
      refine fr ht f6 (by
        have hm : ls.getD j [] ∈ ls := by simp [show j < ls.length by omega]
        have := hmem _ hm
        omega) fun s2 w7 e7 f7 h2 => ?_
      have hxj : vl W64 (ls.getD j []) = xs.getD j 0 := by rw [← hxs, getD_map_vl]
      rw [hxj] at h2
      have hdj2 := hd j
      have hdrop : xs.drop j = xs.getD j 0 :: xs.drop (j + 1) := by
        have hjx : j < xs.length := by omega
        rw [List.drop_eq_getElem_cons hjx, show xs.getD j 0 = xs[j] by simp [hjx]]
      have h3 := sz_mul (vl (W64 ^ N) (xs.drop (j + 1))) (2 ^ (64 * N))
      have h4 : sz (2 ^ (64 * N)) ≤ 41 := sz_two (by omega)
      have h5 := hszd j
      refine c1 (ref_Add (h1.ext e7).dr h2.dr (by have := dz_of_sz h3; omega) (by have := dz_of_sz h5; omega)) ?_
      intro s3 w8 e8 h6
      refine bnd_wi (by omega) (by omega) ⟨j, by omega, j, by omega, rfl, by omega, ?_, f7.trans e8⟩
      have h7 : vl (W64 ^ N) (xs.drop (j + 1)) * 2 ^ (64 * N) + xs.getD j 0 = vl (W64 ^ N) (xs.drop j) := by rw [hdrop, vl_cons, Nat.add_comm, Nat.mul_comm, hpw]
      rw [h7] at h6
      exact h6.less f7.size
    · have : m = 0 := by omega
      subst this
      rw [List.drop_zero] at ho
      exact ⟨ho, f⟩
  rintro o w9 ⟨ho, f9⟩
  refine j1 (fun (b : Bool) w' => b = true ∧ Ext none_ w1 w') ?_ ?_
  · refine c1 (keep_Nats (hs.ext f9) (by omega)) ?_
    intro s4 w10 e10 h4
    have h4 := h4.rs
    rw [hxs] at h4
    refine c1 (limb_Join (k := k) h4 (by omega) fun t => by have := hszd t; omega) ?_
    intro s5 w11 e11 h5
    rw [hN2] at h5
    have := hd 0
    rw [List.drop_zero] at this
    refine sm ((ho.ext e10).ext e11).dr h5 (by have := dz_of_sz this; omega) rfl fun w12 e12 => cnd_t rfl (wk fun w13 e13 => ⟨rfl, (((f9.trans e10).trans e11).trans e12).trans e13⟩)
  rintro b w30 ⟨rfl, f30⟩
  exact rt1 (c := .bool) _ (e1.trans f30) rfl
end Go.Proofs.Ythhohfgpaihngaa.Zg
end

section
namespace Go.Proofs.Ythhohfgpaihngaa.Zg
open Go.RowKit

theorem law02_LimbDivs {w : TW} {a : Sl} {y : Nat} (ha : Arg w a) (hy : y < W64) : Ct Pg F.zigguratlaw02_LimbDivs [a.v, .int .u64 y] w none_ [.one .bool] fun (r : Bool) _ => r = true := by
  obtain ⟨la, ha⟩ := ha
  refine Ct.zigguratlaw02_LimbDivs ?_
  unfold Sh.zigguratlaw02_LimbDivs
  refine cutc (n := 40) ha.here rfl fun s w1 e1 hs _ => ?_
  have hx := sz_vl hs.sm
  have hla : (la.take 40).length ≤ 40 := by simp; omega
  generalize la.take 40 = l at *
  refine c1 (keep_Lend hs (by omega)) ?_
  intro s1 wb e2 L1
  have hs := hs.ext e2
  have e0 := e1.trans e2
  clear e1 e2
  obtain ⟨x, hX⟩ : ∃ x, vl W64 l = x := ⟨_, rfl⟩
  have N1 := L1.nt
  rw [hX] at hx N1
  have dx := dz_of_sz hx
  have dy := dz_of_sz (sz_word hy)
  refine c3 (limb_DivWord N1 hy (by omega)) ?_
  rintro s2 r r1 w3 e3 ⟨h2, rfl, rfl⟩
  refine cnd_i (fun h0 => ?_) (fun h0 => ?_)
  · have h0 : y = 0 := by simp at h0; omega
    subst h0
    refine j1 (fun (b : Bool) w' => b = true ∧ Ext none_ wb w') ?_ ?_
    · refine cnd_t rfl (cnd_t ?_ (cnd_t rfl (wk fun w4 e4 => ⟨rfl, e3.trans e4⟩)))
      have := h2.len
      rw [Nat.div_zero, sz0] at this
      simp [this]
    rintro b w4 ⟨rfl, f⟩
    exact rt1 (c := .bool) _ (e0.trans f) rfl
  have h0 : y ≠ 0 := fun h => by simp [h] at h0
  rw [if_neg h0, if_neg h0]
  have hm : x % y < W64 := Nat.lt_trans (Nat.mod_lt _ (by omega)) hy
  refine fr hs e3 (by omega) fun s3 w4 e4 f4 h3 => ?_
  rw [hX] at h3
  refine c1 (ref_Small hy) ?_
  intro s4 w5 e5 h4
  refine c2 (ref_DivMod (h3.ext e5).dr h4.dr (by omega) (by omega) (by omega)) ?_
  rintro s5 s6 w6 e6 ⟨h5, h6⟩
  have h2 := ((h2.ext e4).ext e5).ext e6
  have f6 := (f4.trans e5).trans e6
  refine j1 (fun (b : Bool) w' => b = true ∧ Ext none_ wb w') ?_ ?_
  · refine cnd_t rfl (sm h5 h2 (by have := dz_mono (Nat.div_le_self x y); omega) rfl fun w7 e7 => cnd_t rfl ?_)
    refine c1 (ref_Small hm) ?_
    intro s7 w8 e8 h7
    refine c1 (ref_Cmp ((h6.ext e7).ext e8) h7.dr) ?_
    rintro r w9 e9 rfl
    refine cnd_t (by rw [cmpN_eq.2 rfl]; rfl) ?_
    exact tact L1 hs (((f6.trans e7).trans e8).trans e9) (by omega) fun w27 f27 => cnd_t rfl (wk fun w29 e29 => ⟨rfl, f27.trans e29⟩)
  rintro b w30 ⟨rfl, f30⟩
  exact rt1 (c := .bool) _ (e0.trans f30) rfl
end Go.Proofs.Ythhohfgpaihngaa.Zg
end

section
namespace Go.Proofs.Ythhohfgpaihngaa.Zg
open Go.RowKit

/-- The world as a call finds it. -/
def TW.of (W : World) : TW := ⟨W, fun _ => False, W.heap.size, fun _ h => h.elim⟩

theorem law_of {P : Program} {f : FuncId} {args : List Value} {W : World} (h : Ct P f args (TW.of W) none_ [.one .bool] fun (r : Bool) _ => r = true) : Calls P f args.toArray W fun e w' => e = .returned (.bool true) ∧ Below W.heap.size W w' := by
  refine Calls.mono h ?_
  rintro e w' ⟨⟨r, _⟩, T', rfl, rfl, hx, hr⟩
  have hr : r = true := hr
  subst hr
  exact ⟨rfl, hx.os, hx.tape, hx.output, hx.size, fun k hk => hx.block k hk (fun h => h) (.inl hk)⟩

/-- What is told of a slice of integers that came in. -/
def IsRow (k : IntKind) (w : World) (a : Option Addr) (len cap : Nat) (zs : List Int) : Prop :=
  (a = none ∧ len = 0 ∧ cap = 0 ∧ zs = []) ∨
  ∃ x, a = some x ∧ len ≤ cap ∧ cap ≤ maxLen ∧ zs.length = cap ∧ (∀ i, i < zs.length → w.cell? (x.add i) = some (.int k (zs.getD i 0))) ∧ ∀ n ∈ zs, (Lit.int k n).wf = true

theorem u64_of {n : Int} (h : (Lit.int .u64 n).wf = true) : ∃ m : Nat, n = m ∧ m < W64 := by
  simp only [Lit.wf, Bool.and_eq_true, decide_eq_true_eq] at h
  have h1 : IntKind.u64.min = 0 := by decide
  have h2 : IntKind.u64.max = 18446744073709551615 := by decide
  rw [h1, h2] at h
  exact ⟨n.toNat, by omega, by rw [w64]; omega⟩
theorem i64_of {n : Int} (h : (Lit.int .i64 n).wf = true) : -9223372036854775808 ≤ n ∧ n ≤ 9223372036854775807 := by
  simp only [Lit.wf, Bool.and_eq_true, decide_eq_true_eq] at h
  have h1 : IntKind.i64.min = -9223372036854775808 := by decide
  have h2 : IntKind.i64.max = 9223372036854775807 := by decide
  rwa [h1, h2] at h

theorem u64s_of {zs : List Int} (h : ∀ n ∈ zs, (Lit.int .u64 n).wf = true) : ∃ l : List Nat, zs = l.map Int.ofNat ∧ Sm W64 l := by
  induction zs with
  | nil => exact ⟨[], rfl, Sm.nil _⟩
  | cons z zs ih =>
    obtain ⟨l, h1, h2⟩ := ih fun n hn => h n (List.mem_cons_of_mem _ hn)
    obtain ⟨m, h3, h4⟩ := u64_of (h z (List.mem_cons_self ..))
    exact ⟨m :: l, by simp [h1, h3], Sm.cons h4 h2⟩

theorem cell_spot {w : World} {a : Addr} {v : Value} (h : w.cell? a = some v) : a.spot = none := by
  unfold World.cell? at h
  split at h
  · split at h
    · cases h
    · rename_i hs; simpa using hs
  · cases h

/-- A row of words that came in. -/
theorem arg_of {W : World} {a : Option Addr} {len cap : Nat} {zs : List Int} (h : IsRow .u64 W a len cap zs) : Arg (TW.of W) ⟨a, len, cap⟩ := by
  rcases h with ⟨rfl, rfl, rfl, rfl⟩ | ⟨x, rfl, hl, hc, hz, hcell, hwf⟩
  · exact ⟨[], Rd.nil _⟩
  · obtain ⟨l, rfl, hs⟩ := u64s_of hwf
    have hll : l.length = cap := by simpa using hz
    refine ⟨l.take len, ⟨by simp; omega, hl, hc, fun hne => ?_⟩, hs.take _⟩
    have hpos : 0 < len := by
      rcases Nat.eq_zero_or_pos len with h | h
      · subst h; exact absurd (by simp) hne
      · exact h
    have h0 := hcell 0 (by simp; omega)
    have hspot := cell_spot h0
    obtain ⟨b, o, sp⟩ := x
    rw [show (Addr.add ⟨b, o, sp⟩ 0) = ⟨b, o, sp⟩ by rfl] at hspot
    simp only at hspot
    subst hspot
    refine ⟨b, o, rfl, fun h => h, fun j v hj => ?_⟩
    have hjl : j < l.length := by
      rcases Nat.lt_or_ge j l.length with h | h
      · exact h
      · simp only [List.map_take, List.getElem?_take] at hj
        split at hj
        · simp [h] at hj
        · cases hj
    have := hcell j (by simpa using hjl)
    rw [Addr.add_mk] at this
    refine Eq.trans this ?_
    simp only [List.map_take, List.getElem?_take] at hj
    split at hj
    · rw [← hj]; simp [hjl]
    · cases hj
end Go.Proofs.Ythhohfgpaihngaa.Zg
end

section
namespace Go.Proofs.Ythhohfgpaihngaa.Zg
open Go.RowKit

/-- What is told of a slice of slices of integers that came in. -/
def IsRows (k : IntKind) (w : World) (a : Option Addr) (len cap : Nat) : Prop :=
  (a = none ∧ len = 0 ∧ cap = 0) ∨
  ∃ (x : Addr) (A : Nat → Option Addr) (L C : Nat → Nat) (Z : Nat → List Int), a = some x ∧ len ≤ cap ∧ cap ≤ maxLen ∧
    ∀ r, r < cap → w.cell? (x.add r) = some (.slice (A r) (L r) (C r)) ∧ IsRow k w (A r) (L r) (C r) (Z r)

theorem isRow_of {k : IntKind} {w : World} {a : Option Addr} {len cap : Nat} {zs : List Int} (h1 : len ≤ cap) (h2 : cap ≤ maxLen) (h3 : zs.length = cap) (h4 : ∀ n ∈ zs, (Lit.int k n).wf = true) (h5 : a = none → cap = 0) (h6 : ∀ a', a = some a' → ∀ c, c < cap → w.cell? (a'.add c) = some (.int k (zs.getD c 0))) : IsRow k w a len cap zs := by
  cases a with
  | none =>
    have := h5 rfl
    subst this
    exact .inl ⟨rfl, by omega, rfl, List.length_eq_zero_iff.1 h3⟩
  | some a => exact .inr ⟨a, rfl, h1, h2, h3, fun i hi => h6 a rfl i (by omega), h4⟩

theorem argL_of {W : World} {a : Option Addr} {len cap : Nat} (h : IsRows .u64 W a len cap) : ArgL (TW.of W) ⟨a, len, cap⟩ := by
  rcases h with ⟨rfl, rfl, rfl⟩ | ⟨x, A, L, C, Z, rfl, hl, hc, hr⟩
  · exact ⟨[], [], ⟨rfl, Nat.le_refl _, by decide, fun h => absurd rfl h⟩, rfl, fun i t h => by simp at h⟩
  · have hrow : ∀ r, ∃ l, r < len → Rd (TW.of W) ⟨A r, L r, C r⟩ l := fun r => by
      by_cases h : r < len
      · obtain ⟨l, hl⟩ := arg_of (hr r (by omega)).2
        exact ⟨l, fun _ => hl⟩
      · exact ⟨[], fun h' => absurd h' h⟩
    refine ⟨(List.range len).map fun r => Classical.choose (hrow r), (List.range len).map fun r => ⟨A r, L r, C r⟩, ⟨by simp, hl, hc, fun hne => ?_⟩, by simp, fun i t hi => ?_⟩
    · have hpos : 0 < len := by
        rcases Nat.eq_zero_or_pos len with h | h
        · subst h; exact absurd (by simp) hne
        · exact h
      have h0 := (hr 0 (by omega)).1
      have hspot := cell_spot h0
      obtain ⟨b, o, sp⟩ := x
      rw [show (Addr.add ⟨b, o, sp⟩ 0) = ⟨b, o, sp⟩ by rfl] at hspot
      simp only at hspot
      subst hspot
      refine ⟨b, o, rfl, fun h => h, fun j v hj => ?_⟩
      have hjl : j < len := by
        have := (List.getElem?_eq_some_iff.1 hj).1
        simpa using this
      have := (hr j (by omega)).1
      rw [Addr.add_mk] at this
      refine Eq.trans this ?_
      rw [← hj]
      simp [hjl]
    · have hil : i < len := by
        have := (List.getElem?_eq_some_iff.1 hi).1
        simpa using this
      have := Classical.choose_spec (hrow i) hil
      simp [hil] at hi
      subst hi
      simpa [hil] using this
end Go.Proofs.Ythhohfgpaihngaa.Zg
end
