/- A part of the proofs of this seat's laws: words, lemmas or contracts of its functions. -/
import Derived.Test.YthhohfgpaihngaaZgT4
import Derived.Test.YthhohfgpaihngaaZgQ7
set_option linter.unusedVariables false
set_option linter.unusedSimpArgs false
set_option linter.unnecessarySimpa false
namespace Go.Proofs.Ythhohfgpaihngaa.Zg
open Go.RowKit

theorem law02_LimbDivs {w : TW} {a : Sl} {y : Nat} (ha : Arg w a) (hy : y < W64) : Ct Pg F.zigguratlaw02_LimbDivs [a.v, .int .u64 y] w none_ [.one .bool] fun (r : Bool) _ => r = true := by
  obtain ⟨la, ha⟩ := ha
  refine Ct.zigguratlaw02_LimbDivs ?_
  unfold Sh.zigguratlaw02_LimbDivs
  refine cutc (n := 40) ha.here rfl fun s w1 e1 hs _ => ?_
  have hx := sz_vl hs.sm
  have hla : (la.take 40).length ≤ 40 := by simp; omega
  generalize la.take 40 = l at *
  refine c1 (keep_Lend hs (by omega)) ?_
  intro s1 wb e2 L1
  have hs := hs.ext e2
  have e0 := e1.trans e2
  clear e1 e2
  obtain ⟨x, hX⟩ : ∃ x, vl W64 l = x := ⟨_, rfl⟩
  have N1 := L1.nt
  rw [hX] at hx N1
  have dx := dz_of_sz hx
  have dy := dz_of_sz (sz_word hy)
  refine c3 (limb_DivWord N1 hy (by omega)) ?_
  rintro s2 r r1 w3 e3 ⟨h2, rfl, rfl⟩
  refine cnd_i (fun h0 => ?_) (fun h0 => ?_)
  · have h0 : y = 0 := by simp at h0; omega
    subst h0
    refine j1 (fun (b : Bool) w' => b = true ∧ Ext none_ wb w') ?_ ?_
    · refine cnd_t rfl (cnd_t ?_ (cnd_t rfl (wk fun w4 e4 => ⟨rfl, e3.trans e4⟩)))
      have := h2.len
      rw [Nat.div_zero, sz0] at this
      simp [this]
    rintro b w4 ⟨rfl, f⟩
    exact rt1 (c := .bool) _ (e0.trans f) rfl
  have h0 : y ≠ 0 := fun h => by simp [h] at h0
  rw [if_neg h0, if_neg h0]
  have hm : x % y < W64 := Nat.lt_trans (Nat.mod_lt _ (by omega)) hy
  refine fr hs e3 (by omega) fun s3 w4 e4 f4 h3 => ?_
  rw [hX] at h3
  refine c1 (ref_Small hy) ?_
  intro s4 w5 e5 h4
  refine c2 (ref_DivMod (h3.ext e5).dr h4.dr (by omega) (by omega) (by omega)) ?_
  rintro s5 s6 w6 e6 ⟨h5, h6⟩
  have h2 := ((h2.ext e4).ext e5).ext e6
  have f6 := (f4.trans e5).trans e6
  refine j1 (fun (b : Bool) w' => b = true ∧ Ext none_ wb w') ?_ ?_
  · refine cnd_t rfl (sm h5 h2 (by have := dz_mono (Nat.div_le_self x y); omega) rfl fun w7 e7 => cnd_t rfl ?_)
    refine c1 (ref_Small hm) ?_
    intro s7 w8 e8 h7
    refine c1 (ref_Cmp ((h6.ext e7).ext e8) h7.dr) ?_
    rintro r w9 e9 rfl
    refine cnd_t (by rw [cmpN_eq.2 rfl]; rfl) ?_
    exact tact L1 hs (((f6.trans e7).trans e8).trans e9) (by omega) fun w27 f27 => cnd_t rfl (wk fun w29 e29 => ⟨rfl, f27.trans e29⟩)
  rintro b w30 ⟨rfl, f30⟩
  exact rt1 (c := .bool) _ (e0.trans f30) rfl
end Go.Proofs.Ythhohfgpaihngaa.Zg
