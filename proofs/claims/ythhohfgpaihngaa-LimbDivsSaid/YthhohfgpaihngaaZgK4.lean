/- A part of the proofs of this seat's laws: words, lemmas or contracts of its functions. -/
import Derived.Test.YthhohfgpaihngaaZgK3
set_option linter.unusedVariables false
set_option linter.unusedSimpArgs false
set_option linter.unnecessarySimpa false
namespace Go.Proofs.Ythhohfgpaihngaa.Zg

theorem limb_Sub {w : TW} {s t : Sl} {x y : Nat} (hs : Nt w s x) (ht : Nt w t y) (hx : sz x ≤ 1099511627776) : Ct Pg F.limb_Sub [s.v, t.v] w none_ [.one .slice, .one .bool] fun (s' : Sl) (ok : Bool) w' => ok = decide (y ≤ x) ∧ On w' w.w.heap.size s' (x - y) := by
  refine Ct.limb_Sub ?_
  unfold Sh.limb_Sub
  refine tr hs.here fun s1 w1 e1 h1 => tr (ht.here.ext e1) fun s2 w2 e2 h2 => ?_
  have h1 := h1.ext e2
  refine c1 (limb_Cmp h1.nt h2.nt) ?_
  rintro r w3 e3 rfl
  have e := (e1.trans e2).trans e3
  have ha := h1.ext e3
  have hb := h2.ext e3
  rw [vl_dg W2, vl_dg W2]
  refine cnd_d (fun h0 => ?_) (fun h0 => ?_)
  · have h0 : x < y := cmpN_neg.1 h0
    refine rt2 (c := .slice) (d := .bool) Sl.nil false e ⟨by simp; omega, ?_⟩
    rw [show x - y = 0 by omega]
    exact On.nil _ _
  have h0 : y ≤ x := Nat.not_lt.1 fun h => h0 (cmpN_neg.2 h)
  have hle := sz_mono h0
  have la := ha.len
  rw [dg_len] at la
  refine mk_u64 (N := sz x) (by omega) (by omega) fun o w4 ho hon e4 hbk => ?_
  refine j0 (fun w5 => ∃ (P : List Nat), vl W64 P = x - y ∧ Ow w5 w3.w.heap.size o P ∧ Ext none_ w3 w5) ?_ ?_
  · refine lp2 (fun m (c i : Int) w5 => ∃ (j d : Nat) (P : List Nat), c = d ∧ i = j ∧ m = sz x - j ∧ j ≤ sz x ∧ d ≤ 1 ∧ P.length = j ∧ vl W64 P + vl W64 ((dg W64 y).take j) = vl W64 ((dg W64 x).take j) + W64 ^ j * d ∧ Ow w5 w3.w.heap.size o (P ++ List.replicate (sz x - j) 0) ∧ Ext none_ w3 w5) (sz x) ⟨0, 0, [], rfl, rfl, by omega, by omega, by omega, rfl, rfl, ho, e4⟩ ?_
    rintro m c i w5 ⟨j, d, P, rfl, rfl, rfl, hj, hd, hP, hv, ho, e5⟩
    refine cnd_d (fun h0 => ?_) (fun h0 => ?_)
    · have hj1 : j < (dg W64 x).length := by rw [dg_len]; omega
      refine (hb.ext e5).at0 rfl ((ha.ext e5).ix rfl hj1 ⟨_, _, _, rfl, rfl, rfl, hd, ?_⟩)
      rw [show sz x - j = (sz x - (j + 1)) + 1 by omega] at ho
      refine ho.put (by omega) (Nat.mod_lt _ (by decide)) rfl fun w6 ho e6 => ?_
      refine bnd_wi (by omega) (by omega) ⟨sz x - (j + 1), by omega, j + 1, _, P ++ [_], rfl, by omega, rfl, by omega, ?_, by simp [hP], ?_, ho, e5.own e6 ho.blk_le⟩
      · split <;> omega
      · rw [vl_snoc, hP, Nat.pow_succ, vl_take_getD, vl_take_getD]
        exact sub_step hv (ha.lt j) (hb.lt j) hd rfl rfl
    · have hj : j = sz x := by omega
      subst hj
      rw [vl_take_all (l := dg W64 y) (by rw [dg_len]; exact hle), vl_take_all (l := dg W64 x) (by rw [dg_len]; exact Nat.le_refl _), vl_dg W2, vl_dg W2] at hv
      rw [Nat.sub_self, List.replicate_zero, List.append_nil] at ho
      refine ⟨P, ?_, ho, e5⟩
      have := vl_lt ho.sm
      rw [hP] at this
      have : d = 0 := by
        rcases Nat.eq_zero_or_pos d with h | h
        · exact h
        · have : d = 1 := by omega
          subst this; omega
      subst this; omega
  · rintro w5 ⟨P, hv, ho, e5⟩
    refine trO ho fun s' w7 e7 h7 => rt2 (c := .slice) (d := .bool) _ _ ((e.trans e5).trans e7) ⟨by simp [h0], ?_⟩
    rw [hv] at h7
    exact (h7.less e.size).at

theorem mul_step {B p L L' v lo hi c s3 c1 s4 c2 c' b y A Q : Nat} (hp : hi * B + lo = b * y) (h1 : s3 = (lo + c + 0) % B) (h2 : c1 = (lo + c + 0) / B) (h3 : s4 = (v + s3 + 0) % B) (h4 : c2 = (v + s3 + 0) / B) (hc : c' = hi + c1 + c2) (hL : L' + p * v = L + p * s4) (hi0 : L + p * c = A + Q * y) : L' + p * B * c' = A + (Q + p * b) * y := by
  rw [Nat.add_zero] at h1 h2 h3 h4
  have e1 := Nat.div_add_mod (lo + c) B
  have e2 := Nat.div_add_mod (v + s3) B
  rw [← h1, ← h2] at e1
  rw [← h3, ← h4] at e2
  have e3 : s4 + B * c' = v + c + b * y := by subst hc; grind
  have e4 : p * s4 + p * (B * c') = p * v + p * c + p * (b * y) := by rw [← Nat.mul_add, e3]; grind
  grind

theorem limb_AddMul {w : TW} {s t : Sl} {x z y : Nat} (hs : Nt w s x) (ht : Nt w t z) (hy : y < W64) (hx : sz x ≤ 1099511627776) (hz : sz z ≤ 1099511627776) : Ct Pg F.limb_AddMul [s.v, t.v, .int .u64 y] w none_ [.one .slice] fun (s' : Sl) w' => On w' w.w.heap.size s' (x + z * y) := by
  refine Ct.limb_AddMul ?_
  unfold Sh.limb_AddMul
  refine tr hs.here fun s1 w1 e1 h1 => tr (ht.here.ext e1) fun s2 w2 e2 h2 => ?_
  have ha := h1.ext e2
  have e := e1.trans e2
  have la := ha.len
  have hb := h2
  have lb := hb.len
  rw [dg_len] at la lb
  obtain ⟨N, hN⟩ : ∃ N, N = max (sz z + 1) (sz x) + 1 := ⟨_, rfl⟩
  have hNe : sz x ≤ N ∧ sz z ≤ N ∧ N ≤ 1099511627780 := by omega
  have hbig : x + z * y < W64 ^ N := by
    refine pow_lt (Nat.le_trans (sz_add _ _) ?_)
    have := sz_mul z y
    have := sz_word hy
    omega
  refine bnd_wi (by omega) (by omega) ?_
  refine bnd_i ?_
  refine bnd_wi (by split <;> omega) (by split <;> omega) ?_
  refine mk_u64 (N := N) (by split <;> omega) (by omega) fun o w4 ho hon e4 hbk => ?_
  refine ho.cpy (ha.ext e4) (by simp [dg_len]; omega) fun w5 ho e5 => ?_
  have e5 := e4.own e5 ho.blk_le
  clear e4
  refine j0 (fun w6 => ∃ (P : List Nat), vl W64 P = x + z * y ∧ Ow w6 w2.w.heap.size o P ∧ Ext none_ w2 w6) ?_ ?_
  · refine lp2 (fun m (c i : Int) w6 => ∃ (j d : Nat) (P : List Nat), c = d ∧ i = j ∧ m = N - j ∧ j ≤ N ∧ d < W64 ∧ P.length = N ∧ vl W64 P + W64 ^ j * d = x + vl W64 ((dg W64 z).take j) * y ∧ Ow w6 w2.w.heap.size o P ∧ Ext none_ w2 w6) N ⟨0, 0, _, rfl, rfl, by omega, by omega, by decide, by simp [dg_len]; omega, ?_, ho, e5⟩ ?_
    · rw [vl_append, vl_dg W2, List.drop_replicate, vl_zeros]
      simp [vl_nil]
    rintro m c i w6 ⟨j, d, P, rfl, rfl, rfl, hj, hd, hP, hv, ho, e6⟩
    have hfin : d = 0 → sz z ≤ j → vl W64 P = x + z * y := fun h1 h2 => by
      subst h1
      rw [vl_take_all (by simpa [dg_len] using h2), vl_dg W2] at hv
      simpa using hv
    refine cnd_d (fun h0 => ?_) (fun h0 => ?_)
    · refine j1 (fun (b : Bool) w7 => w7 = w6 ∧ b = decide (sz z ≤ j ∧ d = 0)) ?_ ?_
      · refine cnd_d (fun h1 => ?_) (fun h1 => ?_)
        · refine ⟨rfl, ?_⟩
          rw [Bool.eq_iff_iff]; simp; omega
        · refine ⟨rfl, ?_⟩
          rw [Bool.eq_iff_iff]; simp; omega
      rintro b w7 ⟨rfl, rfl⟩
      refine cnd_d (fun h1 => ⟨P, hfin h1.2 h1.1, ho, e6⟩) (fun h1 => ?_)
      refine j2 (fun (hi lo : Int) w8 => hi = ((dg W64 z).getD j 0 * y / W64 : Nat) ∧ lo = ((dg W64 z).getD j 0 * y % W64 : Nat) ∧ Ext none_ w7 w8) ?_ ?_
      · refine cnd_d (fun h2 => ?_) (fun h2 => ?_)
        · refine (hb.ext e6).ix rfl (by rw [dg_len]; omega) ?_
          refine c2 (bits_Mul64 (hb.lt j) hy) ?_
          rintro hi lo w8 e8 ⟨rfl, rfl⟩
          exact ⟨rfl, rfl, e8⟩
        · have : (dg W64 z).getD j 0 = 0 := getD_past (by rw [dg_len]; omega)
          rw [this]
          refine ⟨by simp, by simp, Ext.refl _ _⟩
      rintro hi lo w8 ⟨rfl, rfl, e8⟩
      have e6 := e6.trans e8
      have ho := ho.ext e8
      clear e8
      have hgo : vl W64 ((dg W64 z).take (j + 1)) = vl W64 ((dg W64 z).take j) + W64 ^ j * (dg W64 z).getD j 0 := vl_take_getD _ _ _
      have h3 := hb.lt j
      generalize (dg W64 z).getD j 0 = bj at *
      have hm := Nat.div_add_mod (bj * y) W64
      have hlt : bj * y + d + P.getD j 0 < W64 * W64 := by
        have h4 := ho.rd.lt j
        have : bj * y ≤ 18446744073709551615 * 18446744073709551615 := Nat.mul_le_mul (by omega) (by rw [w64] at hy; omega)
        rw [w64] at hd ⊢
        omega
      generalize hH : bj * y / W64 = H at *
      generalize hL : bj * y % W64 = L at *
      generalize hV : P.getD j 0 = V at *
      have hL1 : L < W64 := by rw [← hL]; exact Nat.mod_lt _ (by decide)
      have hjP : j < P.length := by omega
      refine ⟨L, d, 0, rfl, rfl, rfl, by omega, ?_⟩
      rw [w64] at hm hlt hL1 hd
      have hV1 := ho.rd.lt j
      rw [hV] at hV1
      refine bnd_wu' (y := H + (L + d + 0) / 18446744073709551616) (by simp) (by rw [w64]; omega) ?_
      refine ho.rd.ix rfl hjP ?_
      rw [hV]
      refine ⟨V, (L + d + 0) % 18446744073709551616, 0, rfl, rfl, rfl, by omega, ?_⟩
      refine ho.store (j := j) rfl hjP (Nat.mod_lt _ (by decide)) rfl fun w9 ho9 e9 => ?_
      refine bnd_wu' (y := H + (L + d + 0) / 18446744073709551616 + (V + (L + d + 0) % 18446744073709551616 + 0) / 18446744073709551616) (by simp) (by rw [w64]; omega) ?_
      refine bnd_wi (by omega) (by omega) ⟨N - (j + 1), by omega, j + 1, _, _, rfl, by omega, rfl, by omega, by rw [w64]; omega, by simp [hP], ?_, ho9, e6.own e9 ho9.blk_le⟩
      rw [Nat.pow_succ, hgo]
      refine mul_step (by rw [w64]; omega) rfl rfl rfl rfl rfl ?_ hv
      have := vl_set (b := W64) hjP ((V + (L + d + 0) % 18446744073709551616 + 0) % 18446744073709551616)
      rwa [show P[j] = V by rw [← hV]; simp [hjP]] at this
    · refine ⟨P, ?_, ho, e6⟩
      have : j = N := by omega
      subst this
      rw [vl_take_all (by rw [dg_len]; omega), vl_dg W2] at hv
      rcases Nat.eq_zero_or_pos d with h | h
      · subst h; simpa using hv
      · have := Nat.mul_le_mul_left (W64 ^ j) h
        omega
  · rintro w5 ⟨P, hv, ho, e5⟩
    refine trO ho fun s' w7 e7 h7 => rt1 (c := .slice) _ ((e.trans e5).trans e7) ?_
    rw [hv] at h7
    exact (h7.less e.size).at

theorem limb_MulWord {w : TW} {t : Sl} {z y : Nat} (ht : Nt w t z) (hy : y < W64) (hz : sz z ≤ 1099511627776) : Ct Pg F.limb_MulWord [t.v, .int .u64 y] w none_ [.one .slice] fun (s' : Sl) w' => On w' w.w.heap.size s' (z * y) := by
  refine Ct.limb_MulWord ?_
  unfold Sh.limb_MulWord
  refine c1 (limb_AddMul (s := Sl.nil) (x := 0) (t := t) (z := z) (y := y) (Nt.nil _) ht.here hy (by rw [sz0]; omega) hz) ?_
  intro s' w' e h
  rw [Nat.zero_add] at h
  exact rt1 (c := .slice) _ e h.at

theorem limb_SubMul {w : TW} {s t : Sl} {x z y : Nat} (hs : Nt w s x) (ht : Nt w t z) (hy : y < W64) (hx : sz x ≤ 1099511627776) (hz : sz z ≤ 1099511627776) : Ct Pg F.limb_SubMul [s.v, t.v, .int .u64 y] w none_ [.one .slice, .one .bool] fun (s' : Sl) (ok : Bool) w' => ok = decide (z * y ≤ x) ∧ On w' w.w.heap.size s' (x - z * y) := by
  refine Ct.limb_SubMul ?_
  unfold Sh.limb_SubMul
  refine c1 (limb_MulWord ht.here hy hz) ?_
  intro s1 w1 e1 h1
  refine c2 (limb_Sub (hs.here.ext e1) h1.nt hx) ?_
  rintro s2 ok w2 e2 ⟨rfl, h2⟩
  exact rt2 (c := .slice) (d := .bool) _ _ (e1.trans e2) ⟨rfl, (h2.less e1.size).at⟩

theorem limb_One {w : TW} {y : Nat} (hy : y < W64) : Ct Pg F.limb_One [.int .u64 y] w none_ [.one .slice] fun (s' : Sl) w' => On w' w.w.heap.size s' y := by
  refine Ct.limb_One ?_
  unfold Sh.limb_One
  refine cnd_i (fun h => ?_) (fun h => ?_)
  · have : y = 0 := by simp at h; omega
    subst this
    exact rt1 (c := .slice) Sl.nil (Ext.refl _ _) (On.nil _ _)
  · have h0 : 0 < y := by simp at h; omega
    refine nw_u64 rfl hy fun b w' h e => rt1 (c := .slice) ⟨some ⟨b, 0, none⟩, 1, 1⟩ e ?_
    have e1 : dg W64 y = [y] := by rw [dg_pos W2 h0, Nat.mod_eq_of_lt hy, Nat.div_eq_of_lt hy, dg_zero]
    rw [On, e1]
    exact h.at
end Go.Proofs.Ythhohfgpaihngaa.Zg
