/- A part of the proofs of this seat's laws: words, lemmas or contracts of its functions. -/
import Derived.Test.YthhohfgpaihngaaZgL3
import Derived.Test.YthhohfgpaihngaaZgL2
set_option linter.unusedVariables false
set_option linter.unusedSimpArgs false
set_option linter.unnecessarySimpa false
namespace Go.Proofs.Ythhohfgpaihngaa.Zg
open Go.RowKit

theorem law02_from {w : TW} {s : Sl} {l : List Nat} (hs : Rd w s l) (hn : l.length ≤ 1048576) : Ct Pg F.zigguratlaw02_from [s.v] w none_ [.one .slice] fun (s' : Sl) w' => Dn w' w.w.heap.size s' (vl W64 l) := by
  refine Ct.zigguratlaw02_from ?_
  unfold Sh.zigguratlaw02_from
  have := hs.len
  refine c1 (ref_From hs.here.nt (by omega)) ?_
  intro s' w' e h
  exact rt1 (c := .slice) _ e h.at
/-- A call of the law's from. -/
theorem fr {w0 w : TW} {s : Sl} {l : List Nat} {K : Sl → TW → Prop} (h : Rd w0 s l) (e : Ext none_ w0 w) (hn : l.length ≤ 1048576) (hK : ∀ s' w', Ext none_ w w' → Ext none_ w0 w' → Dn w' w.w.heap.size s' (vl W64 l) → K s' w') : cl Pg F.zigguratlaw02_from [s.v] w [.one .slice] K := by
  refine c1 (law02_from (h.ext e) hn) ?_
  intro s' w' e' h'
  exact hK s' w' e' (e.trans e') h'
theorem law02_count {w : TW} {n m : Int} (hm : 0 ≤ m) : Ct Pg F.zigguratlaw02_count [.int .i64 n, .int .i64 m] w none_ [.one (.int .i64)] fun (r : Int) _ => r = (min n.toNat m.toNat : Nat) := by
  refine Ct.zigguratlaw02_count ?_
  unfold Sh.zigguratlaw02_count
  refine bnd_i (bnd_i (rt1 (c := .int .i64) _ (Ext.refl _ _) ?_))
  split <;> split <;> omega
/-- A call of Same. -/
theorem sm {w : TW} {s t : Sl} {B x y : Nat} {K : Bool → TW → Prop} (h : Dr w s x) (k : On w B t y) (hx : dz x ≤ 274877906944) (hxy : x = y) (hK : ∀ w', Ext none_ w w' → K true w') : cl Pg F.zigguratref02_Same [s.v, t.v] w [.one .bool] K := by
  refine c1 (ref_Same h k.rd hx hxy) ?_
  rintro r w' e rfl
  exact hK w' e
theorem wk {w : TW} {K : Bool → TW → Prop} (hK : ∀ w', Ext none_ w w' → K true w') : cl Pg F.zigguratlaw02_wakes [] w [.one .bool] K := by
  refine c1 law02_wakes ?_
  rintro r w' e rfl
  exact hK w' e
/-- A call of Intact. -/
theorem tact {w0 w : TW} {B : Nat} {s a : Sl} {l : List Nat} {K : Bool → TW → Prop} (hs : Lent w0 B s l) (ha : Rd w0 a l) (e : Ext none_ w0 w) (hn : l.length ≤ 1048576) (hK : ∀ w', Ext none_ w0 w' → K true w') : cl Pg F.zigguratkeep_Intact [s.v, a.v] w [.one .bool] K := by
  refine c1 (keep_Intact (hs.ext e) (ha.ext e) (by omega)) ?_
  rintro r w' e' rfl
  exact hK w' (e.trans e')

theorem dz_of_sz {x k : Nat} (h : sz x ≤ k) : dz x ≤ 2 * k := Nat.le_trans (dz_sz x) (Nat.mul_le_mul_left _ h)

theorem law02_LimbAdds {w : TW} {a b : Sl} (ha : Arg w a) (hb : Arg w b) : Ct Pg F.zigguratlaw02_LimbAdds [a.v, b.v] w none_ [.one .bool] fun (r : Bool) _ => r = true := by
  obtain ⟨la, ha⟩ := ha
  obtain ⟨lb, hb⟩ := hb
  refine Ct.zigguratlaw02_LimbAdds ?_
  unfold Sh.zigguratlaw02_LimbAdds
  refine cutc (n := 60) ha.here rfl fun s w1 e1 hs _ => cutc (n := 60) (hb.here.ext e1) rfl fun t w2 e2 ht _ => ?_
  have hs := hs.ext e2
  have hx := sz_vl hs.sm
  have hy := sz_vl ht.sm
  have hla : (la.take 60).length ≤ 60 := by simp; omega
  have hlb : (lb.take 60).length ≤ 60 := by simp; omega
  generalize la.take 60 = l at *
  generalize lb.take 60 = m at *
  refine c1 (keep_Lend hs (by omega)) ?_
  intro s2 w3 e3 L1
  refine c1 (keep_Lend (ht.ext e3) (by omega)) ?_
  intro s3 wb e4 L2
  have hs := hs.ext (e3.trans e4)
  have ht := ht.ext (e3.trans e4)
  have L1 := L1.ext e4
  have e0 := ((e1.trans e2).trans e3).trans e4
  clear e1 e2 e3 e4
  obtain ⟨x, hX⟩ : ∃ x, vl W64 l = x := ⟨_, rfl⟩
  obtain ⟨y, hY⟩ : ∃ y, vl W64 m = y := ⟨_, rfl⟩
  have N1 := L1.nt
  have N2 := L2.nt
  rw [hX] at hx N1
  rw [hY] at hy N2
  have hadd := sz_add x y
  have dx := dz_of_sz hx
  have dy := dz_of_sz hy
  have dxy := dz_of_sz hadd
  refine c1 (limb_Add N1 N2 (by omega) (by omega)) ?_
  intro s4 w5 e5 h4
  have b4 := fun c hc => (Ow.from_ h4 c hc).2
  refine c2 (limb_Sub (N1.ext e5) (N2.ext e5) (by omega)) ?_
  rintro s5 ok w6 e6 ⟨rfl, h5⟩
  have h4 := h4.ext e6
  refine fr hs (e5.trans e6) (by omega) fun s6 w7 e7 f7 h6 => fr ht f7 (by omega) fun s7 w8 e8 f8 h7 => ?_
  have h4 := (h4.ext e7).ext e8
  have h5 := (h5.ext e7).ext e8
  rw [hX] at h6
  rw [hY] at h7
  refine c1 (ref_Cmp (h6.ext e8).dr h7.dr) ?_
  rintro r w9 e9 rfl
  have h4 := h4.ext e9
  have h5 := h5.ext e9
  have f9 := f8.trans e9
  refine j1 (fun (b : Bool) w' => b = false ∧ On w' wb.w.heap.size s4 (x + y) ∧ On w' w5.w.heap.size s5 (x - y) ∧ Ext none_ wb w') ?_ ?_
  · refine fr hs f9 (by omega) fun s8 w10 e10 f10 h8 => fr ht f10 (by omega) fun s9 w11 e11 f11 h9 => ?_
    rw [hX] at h8
    rw [hY] at h9
    have h4 := (h4.ext e10).ext e11
    have h5 := (h5.ext e10).ext e11
    refine c1 (ref_Add (h8.ext e11).dr h9.dr (by omega) (by omega)) ?_
    intro s10 w12 e12 h10
    refine sm h10.dr (h4.ext e12) (by omega) rfl fun w13 e13 => cnd_f rfl ?_
    have f13 := (f11.trans e12).trans e13
    refine c1 (limb_Cmp (N1.ext f13) (N2.ext f13)) ?_
    rintro r w14 e14 rfl
    refine cnd_f (by simp) ⟨?_, ((h4.ext e12).ext e13).ext e14, ((h5.ext e12).ext e13).ext e14, f13.trans e14⟩
    have : (cmpN x y ≥ 0) ↔ y ≤ x := by
      have := @cmpN_neg x y
      omega
    simp [this]
  rintro b w15 ⟨rfl, h4, h5, f15⟩
  refine cnd_f rfl ?_
  refine j1 (fun (b : Bool) w' => b = false ∧ On w' wb.w.heap.size s4 (x + y) ∧ On w' w5.w.heap.size s5 (x - y) ∧ Ext none_ wb w') ?_ ?_
  · refine cnd_d (fun hle => ?_) (fun hle => ?_)
    · refine fr hs f15 (by omega) fun s11 w16 e16 f16 h11 => fr ht f16 (by omega) fun s12 w17 e17 f17 h12 => ?_
      rw [hX] at h11
      rw [hY] at h12
      have h4 := (h4.ext e16).ext e17
      have h5 := (h5.ext e16).ext e17
      refine c1 (ref_Sub (h11.ext e17).dr h12.dr (by omega) hle) ?_
      intro s13 w18 e18 h13
      refine sm h13.dr (h5.ext e18) (by have := dz_mono (Nat.sub_le x y); omega) rfl fun w19 e19 => cnd_f rfl (cnd_f (by simp [hle]) ?_)
      exact ⟨rfl, (h4.ext e18).ext e19, (h5.ext e18).ext e19, (f17.trans e18).trans e19⟩
    · refine cnd_t (by simp [hle]) ⟨?_, h4, h5, f15⟩
      have := h5.len
      rw [show x - y = 0 by omega, sz0] at this
      simp [this]
  rintro b w20 ⟨rfl, h4, h5, f20⟩
  refine cnd_f rfl ?_
  have b4' := fun c hc => (Ow.from_ h4 c hc).2
  have b5' := fun c hc => (Ow.from_ h5 c hc).2
  refine c1 (limb_Norm (N1.ext f20) (by omega)) ?_
  intro s14 w21 e21 h14
  have h4 := h4.ext e21
  have h5 := h5.ext e21
  have f21 := f20.trans e21
  have h45 : ∀ c, s5.blk = some c → ¬ s4.blk = some c := fun c hc h => by
    have := b4 c h
    have := Ow.blk_le h5 c hc
    omega
  have h4_14 : ∀ c, s14.blk = some c → ¬ s4.blk = some c := fun c hc h => by
    have := b4' c h
    have := Ow.blk_le h14 c hc
    omega
  have h5_14 : ∀ c, s14.blk = some c → ¬ s5.blk = some c := fun c hc h => by
    have := b5' c h
    have := Ow.blk_le h14 c hc
    omega
  refine spl h4 f21 (Nat.le_refl _) fun w22 f22 x22 => ?_
  have h5 := h5.extX x22 h45
  have h14 := h14.extX x22 h4_14
  refine spl h5 f22 e5.size fun w23 f23 x23 => ?_
  have h14 := h14.extX x23 h5_14
  refine fr hs f23 (by omega) fun s15 w24 e24 f24 h15 => ?_
  rw [hX] at h15
  refine sm h15.dr (h14.ext e24) (by omega) rfl fun w25 e25 => cnd_f rfl ?_
  refine spl ((h14.ext e24).ext e25) (f24.trans e25) f20.size fun w26 f26 _ => ?_
  refine j1 (fun (b : Bool) w' => b = true ∧ Ext none_ wb w') ?_ ?_
  · refine tact L1 hs f26 (by omega) fun w27 f27 => cnd_t rfl (tact L2 ht f27 (by omega) fun w28 f28 => cnd_t rfl (wk fun w29 e29 => ⟨rfl, f28.trans e29⟩))
  rintro b w30 ⟨rfl, f30⟩
  exact rt1 (c := .bool) _ (e0.trans f30) rfl
end Go.Proofs.Ythhohfgpaihngaa.Zg
