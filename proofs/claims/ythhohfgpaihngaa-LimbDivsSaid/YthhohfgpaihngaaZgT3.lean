/- A part of the proofs of this seat's laws: words, lemmas or contracts of its functions. -/
import Derived.Test.YthhohfgpaihngaaZgT2
set_option linter.unusedVariables false
set_option linter.unusedSimpArgs false
set_option linter.unnecessarySimpa false
namespace Go.Proofs.Ythhohfgpaihngaa.Zg
open Go.RowKit

theorem law02_LimbSplits {w : TW} {a : Sl} {k : Int} (ha : Arg w a) (_ : -9223372036854775808 ≤ k ∧ k ≤ 9223372036854775807) : Ct Pg F.zigguratlaw02_LimbSplits [a.v, .int .i64 k] w none_ [.one .bool] fun (r : Bool) _ => r = true := by
  obtain ⟨la, ha⟩ := ha
  refine Ct.zigguratlaw02_LimbSplits ?_
  unfold Sh.zigguratlaw02_LimbSplits
  refine cutc (n := 50) ha.here rfl fun s w1 e1 hs _ => ?_
  have hx := sz_vl hs.sm
  have hla : (la.take 50).length ≤ 50 := by simp; omega
  generalize la.take 50 = l at *
  refine c1 (keep_Lend hs (by omega)) ?_
  intro s1 wb e2 L1
  have hs := hs.ext e2
  have e0 := e1.trans e2
  clear e1 e2
  obtain ⟨x, hX⟩ : ∃ x, vl W64 l = x := ⟨_, rfl⟩
  have N1 := L1.nt
  rw [hX] at hx N1
  have dx := dz_of_sz hx
  refine c2 (limb_Split (k := k) N1 (by omega)) ?_
  rintro s2 s3 w3 e3 ⟨h2, h3, hne⟩
  refine c1 (law02_count (by decide)) ?_
  rintro r w4 e4 rfl
  rw [show (16384 : Int).toNat = 16384 by rfl]
  obtain ⟨N, hN⟩ : ∃ N, N = min k.toNat 16384 := ⟨_, rfl⟩
  rw [← hN] at h2 h3 ⊢
  have hN1 : N ≤ 16384 := by omega
  have hpw : 2 ^ (64 * N) = W64 ^ N := by rw [w_pow, Nat.pow_mul]
  have hdiv : sz (x / W64 ^ N) ≤ 50 := Nat.le_trans (sz_mono (Nat.div_le_self _ _)) (by omega)
  have hmod : sz (x % W64 ^ N) ≤ 50 := Nat.le_trans (sz_mono (Nat.mod_le _ _)) (by omega)
  have ddiv := dz_of_sz hdiv
  have dmod := dz_of_sz hmod
  have f4 := e3.trans e4
  have h2 := h2.ext e4
  have h3 := h3.ext e4
  refine j1 (fun (b : Bool) w' => b = false ∧ Ext none_ w4 w') ?_ ?_
  · refine fr hs f4 (by omega) fun s5 w5 e5 f5 h5 => bnd_wi (by omega) (by omega) ?_
    rw [hX] at h5
    refine c1 (ref_Low (s := s5) (n := 64 * N) h5.dr (by omega) (by omega)) ?_
    intro s6 w6 e6 h6
    rw [hpw] at h6
    have g6 := e5.trans e6
    refine sm h6.dr (h2.ext g6) (by omega) rfl fun w7 e7 => cnd_f rfl ?_
    have g7 := g6.trans e7
    refine fr hs (f4.trans g7) (by omega) fun s8 w8 e8 f8 h8 => bnd_wi (by omega) (by omega) ?_
    rw [hX] at h8
    refine c1 (ref_Shr (s := s8) (n := 64 * N) h8.dr (by omega) (by omega)) ?_
    intro s9 w9 e9 h9
    rw [hpw] at h9
    have g9 := (g7.trans e8).trans e9
    exact sm h9.dr (h3.ext g9) (by omega) rfl fun w10 e10 => ⟨rfl, g9.trans e10⟩
  rintro b w11 ⟨rfl, g11⟩
  refine cnd_f rfl ?_
  have h2 := h2.ext g11
  have h3 := h3.ext g11
  have f11 := f4.trans g11
  refine nw_rs (ss := [s2, s3]) (xs := [x % W64 ^ N, x / W64 ^ N]) 2 rfl rfl (by decide) ?_ fun b4 w12 h12 e12 => ?_
  · intro i t ht
    match i with
    | 0 => simp at ht; subst ht; exact h2.nt
    | 1 => simp at ht; subst ht; exact h3.nt
    | i + 2 => simp at ht
  refine c1 (limb_Join (k := k) (s := ⟨some ⟨b4, 0, none⟩, 2, 2⟩) (xs := [x % W64 ^ N, x / W64 ^ N]) h12 (by simp) ?_) ?_
  · intro t
    match t with
    | 0 => exact Nat.le_trans hmod (by decide)
    | 1 => exact Nat.le_trans hdiv (by decide)
    | t + 2 => simp [sz0]
  intro s8 w13 e13 h13
  rw [← hN] at h13
  have h2 := (h2.ext e12).ext e13
  have h3 := (h3.ext e12).ext e13
  have f13 := (f11.trans e12).trans e13
  refine j1 (fun (b : Bool) w' => b = false ∧ Ext none_ w13 w') ?_ ?_
  · refine cnd_d (fun h0 => ?_) (fun h0 => ⟨rfl, Ext.refl _ _⟩)
    refine c1 (limb_Cmp h13.nt (N1.ext f13)) ?_
    rintro r w14 e14 rfl
    refine ⟨?_, e14⟩
    have : vl (W64 ^ N) [x % W64 ^ N, x / W64 ^ N] = x := by simp only [vl_cons, vl_nil, Nat.mul_zero, Nat.add_zero]; exact Nat.mod_add_div x (W64 ^ N)
    rw [this, cmpN_eq.2 rfl]
    rfl
  rintro b w15 ⟨rfl, g15⟩
  refine cnd_f rfl ?_
  have h2 := h2.ext g15
  have h3 := h3.ext g15
  have f15 := f13.trans g15
  refine spl h2 f15 (Nat.le_refl _) fun w16 f16 x16 => ?_
  have h3 := h3.extX x16 hne
  refine spl h3 f16 (Nat.le_refl _) fun w17 f17 _ => ?_
  refine j1 (fun (b : Bool) w' => b = true ∧ Ext none_ wb w') ?_ ?_
  · exact tact L1 hs f17 (by omega) fun w27 f27 => cnd_t rfl (wk fun w29 e29 => ⟨rfl, f27.trans e29⟩)
  rintro b w30 ⟨rfl, f30⟩
  exact rt1 (c := .bool) _ (e0.trans f30) rfl

/-- A row of rows that came in. -/
def ArgL (w : TW) (s : Sl) : Prop := ∃ ls, Rl w s ls

theorem law02_LimbSums {w : TW} {a : Sl} {y : Nat} (ha : ArgL w a) (hy : y < W64) : Ct Pg F.zigguratlaw02_LimbSums [a.v, .int .u64 y] w none_ [.one .bool] fun (r : Bool) _ => r = true := by
  obtain ⟨la, ha⟩ := ha
  refine Ct.zigguratlaw02_LimbSums ?_
  unfold Sh.zigguratlaw02_LimbSums
  refine c1 (keep_Cuts (k := 12) (n := 20) ha.here (by decide)) ?_
  intro s w1 e1 hs
  have hlen : ((la.take 12).map (List.take 20)).length ≤ 12 := by simp; omega
  have hmem : ∀ l ∈ (la.take 12).map (List.take 20), l.length ≤ 20 := fun l hl => by
    obtain ⟨m, _, rfl⟩ := List.mem_map.1 hl
    simp; omega
  generalize (la.take 12).map (List.take 20) = ls at *
  have hsm : ∀ l ∈ ls, Sm W64 l := fun l hl => by
    obtain ⟨ss, h1, h2, h3⟩ := hs
    obtain ⟨i, hi, rfl⟩ := List.getElem_of_mem hl
    have := (h3 i ss[i] (by simp [h2, hi])).sm
    simpa [hi] using this
  have hszs : ∀ t, sz ((ls.map (vl W64)).getD t 0) ≤ 20 := fun t => by
    rw [getD_map_vl]
    rcases Nat.lt_or_ge t ls.length with h | h
    · have hm : ls.getD t [] ∈ ls := by simp [h]
      exact Nat.le_trans (sz_vl (hsm _ hm)) (hmem _ hm)
    · simp [h, vl, sz0]
  have hsum : sz (ls.map (vl W64)).sum ≤ 21 := by
    refine sz_pow (Nat.lt_of_le_of_lt (sum_lt (k := 20) fun x hx => ?_) ?_)
    · obtain ⟨l, hl, rfl⟩ := List.mem_map.1 hx
      exact Nat.lt_of_lt_of_le (vl_lt (hsm l hl)) (Nat.pow_le_pow_right (by decide) (hmem l hl))
    · rw [show 21 = 20 + 1 by rfl, Nat.pow_succ, Nat.mul_comm]
      have h0 : 0 < W64 ^ 20 := Nat.pow_pos (by decide)
      exact Nat.mul_lt_mul_of_pos_left (by rw [w64]; simp; omega) h0
  have dsum := dz_of_sz hsum
  refine j1 (fun (b : Bool) w' => b = true ∧ Ext none_ w1 w') ?_ ?_
  · refine c1 (keep_Nats hs (by omega)) ?_
    intro s1 w2 e2 h1
    refine c1 (ref_Sum (k := 20) h1 (by omega) (by decide) hmem hsm) ?_
    intro s2 w3 e3 h2
    refine c1 (keep_Nats ((hs.ext e2).ext e3) (by omega)) ?_
    intro s3 w4 e4 h3
    refine c1 (limb_Sum h3.rs (by simp; omega) fun t => by have := hszs t; omega) ?_
    intro s4 w5 e5 h4
    refine sm ((h2.ext e4).ext e5).dr h4 (by omega) rfl fun w6 e6 => cnd_t rfl ?_
    refine c1 (ref_Small hy) ?_
    intro s5 w7 e7 h5
    refine c1 (limb_One hy) ?_
    intro s6 w8 e8 h6
    refine sm (h5.ext e8).dr h6 (by have := dz_of_sz (sz_word hy); omega) rfl fun w9 e9 => cnd_t rfl (wk fun w10 e10 => ⟨rfl, (((((((e2.trans e3).trans e4).trans e5).trans e6).trans e7).trans e8).trans e9).trans e10⟩)
  rintro b w30 ⟨rfl, f30⟩
  exact rt1 (c := .bool) _ (e1.trans f30) rfl
end Go.Proofs.Ythhohfgpaihngaa.Zg
