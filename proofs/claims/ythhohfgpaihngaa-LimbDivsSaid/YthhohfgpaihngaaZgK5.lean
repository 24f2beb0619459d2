/- A part of the proofs of this seat's laws: words, lemmas or contracts of its functions. -/
import Derived.Test.YthhohfgpaihngaaZgK4
set_option linter.unusedVariables false
set_option linter.unusedSimpArgs false
set_option linter.unnecessarySimpa false
namespace Go.Proofs.Ythhohfgpaihngaa.Zg

/-! ### Plain laws of shifts -/
theorem w_pow : W64 = 2 ^ 64 := by decide
theorem two_split (n : Nat) : 2 ^ n = W64 ^ (n / 64) * 2 ^ (n % 64) := by
  rw [w_pow, ← Nat.pow_mul, ← Nat.pow_add, Nat.div_add_mod]
theorem vl_drop_div {l : List Nat} (h : Sm W64 l) (k : Nat) : vl W64 (l.drop k) = vl W64 l / W64 ^ k ∧ vl W64 (l.take k) = vl W64 l % W64 ^ k := by
  rcases Nat.lt_or_ge l.length k with hk | hk
  · have hlt : vl W64 l < W64 ^ k := Nat.lt_of_lt_of_le (vl_lt h) (Nat.pow_le_pow_right (by decide) (Nat.le_of_lt hk))
    rw [List.drop_of_length_le (Nat.le_of_lt hk), List.take_of_length_le (Nat.le_of_lt hk), Nat.div_eq_of_lt hlt, Nat.mod_eq_of_lt hlt]
    exact ⟨rfl, rfl⟩
  · have h1 := vl_split W64 l k hk
    have h2 := vl_lt (h.take k)
    rw [List.length_take, Nat.min_eq_left hk] at h2
    have h3 : 0 < W64 ^ k := Nat.pow_pos (by decide)
    rw [h1, Nat.add_mul_div_left _ _ h3, Nat.div_eq_of_lt h2, Nat.zero_add, Nat.add_mul_mod_self_left, Nat.mod_eq_of_lt h2]
    exact ⟨rfl, rfl⟩
theorem dg_drop (x k : Nat) : (dg W64 x).drop k = dg W64 (x / W64 ^ k) := by
  have h := (vl_drop_div (dg_sm W2 x) k).1
  rw [vl_dg W2] at h
  rw [← h]
  refine (dg_of_last W2 ((dg_sm W2 x).drop k) fun y hy => ?_).symm
  rw [List.getLast?_drop] at hy
  split at hy
  · cases hy
  · exact dg_last W2 x y hy

theorem limb_Shl {w : TW} {s : Sl} {x : Nat} {n : Int} (hs : Nt w s x) (hx : sz x ≤ 1099511627776) : Ct Pg F.limb_Shl [s.v, .int .i64 n] w none_ [.one .slice] fun (s' : Sl) w' => On w' w.w.heap.size s' (x * 2 ^ min n.toNat 1048576) := by
  refine Ct.limb_Shl ?_
  unfold Sh.limb_Shl
  refine c1 (limb_within (by decide)) ?_
  rintro r w1 e1 rfl
  refine tr (hs.here.ext e1) fun s2 w2 e2 ha => ?_
  have e := e1.trans e2
  have la := ha.len
  rw [dg_len] at la
  have hn : min n.toNat (1048576 : Int).toNat ≤ 1048576 := by omega
  rw [show (1048576 : Int).toNat = 1048576 by rfl] at hn ⊢
  generalize min n.toNat 1048576 = N at *
  refine cnd_i (fun h0 => ?_) (fun h0 => ?_)
  · have : sz x = 0 := by simp at h0; omega
    rw [sz_zero] at this
    subst this
    refine rt1 (c := .slice) Sl.nil e ?_
    rw [Nat.zero_mul]
    exact On.nil _ _
  refine divNi (x := N) (y := 64) rfl rfl (by omega) (by decide) (remN (x := N) (y := 64) rfl rfl (by decide) ?_)
  refine bnd_wu' (y := N % 64) rfl (by rw [w64]; omega) (bnd_wi (by omega) (by omega) (bnd_wi (by omega) (by omega) ?_))
  obtain ⟨k, hk⟩ : ∃ k, k = N / 64 := ⟨_, rfl⟩
  obtain ⟨b, hb⟩ : ∃ b, b = N % 64 := ⟨_, rfl⟩
  have hkb : 2 ^ N = W64 ^ k * 2 ^ b := by rw [hk, hb]; exact two_split N
  rw [← hk, ← hb]
  have hb64 : b < 64 := by omega
  have hk1 : k ≤ 16384 := by omega
  clear hk hb
  have hpb : 0 < 2 ^ b := Nat.two_pow_pos b
  have hbb : 2 ^ b * 2 ^ (64 - b) = W64 := by rw [← Nat.pow_add, w_pow]; congr 1; omega
  refine mk_u64 (N := sz x + k + 1) (by omega) (by omega) fun o w4 ho hon e4 hbk => ?_
  refine j0 (fun w5 => ∃ (P : List Nat), vl W64 P = x * 2 ^ N ∧ Ow w5 w2.w.heap.size o P ∧ Ext none_ w2 w5) ?_ ?_
  · refine lp1 (fun m (i : Int) w5 => ∃ (j t : Nat) (P : List Nat), i = j ∧ m = sz x - j ∧ j ≤ sz x ∧ P.length = k + j ∧ t < 2 ^ b ∧ vl W64 P + W64 ^ (k + j) * t = vl W64 ((dg W64 x).take j) * 2 ^ N ∧ Ow w5 w2.w.heap.size o (P ++ t :: List.replicate (sz x - j) 0) ∧ Ext none_ w2 w5) (sz x) ⟨0, 0, List.replicate k 0, rfl, by omega, by omega, by simp, hpb, ?_, ?_, e4⟩ ?_
    · rw [vl_zeros]; simp [vl_nil]
    · rwa [show List.replicate k 0 ++ 0 :: List.replicate (sz x - 0) 0 = List.replicate (sz x + k + 1) 0 by
        rw [show (0 : Nat) :: List.replicate (sz x - 0) 0 = List.replicate (sz x + 1) 0 by simp [List.replicate_succ], List.replicate_append_replicate]; congr 1; omega]
    rintro m i w5 ⟨j, t, P, rfl, rfl, hj, hP, ht, hv, ho, e5⟩
    refine cnd_d (fun h0 => ?_) (fun h0 => ?_)
    · have hj1 : j < (dg W64 x).length := by rw [dg_len]; omega
      refine (ha.ext e5).ix rfl hj1 ?_
      have hd := ha.lt j
      have hgo := vl_take_getD W64 (dg W64 x) j
      generalize (dg W64 x).getD j 0 = v at *
      refine bnd_wi (by omega) (by omega) (bnd_wi (by omega) (by omega) ?_)
      have hg : ((P ++ t :: List.replicate (sz x - j) 0).getD (k + j) 0) = t := by simp [hP]
      refine ho.rd.ix (j := k + j) (by omega) (by simp [hP]) ?_
      rw [hg]
      refine shlN (x := v) (n := b) rfl rfl (by omega) ?_
      have htW : t < W64 := Nat.lt_of_lt_of_le ht (by rw [w_pow]; exact Nat.pow_le_pow_right (by decide) (by omega))
      have hdvd : 2 ^ b ∣ v * 2 ^ b % W64 := by
        rw [← hbb, Nat.mul_comm v, Nat.mul_mod_mul_left]
        exact Nat.dvd_mul_right _ _
      have hsum : t + v * 2 ^ b % W64 < W64 := by
        obtain ⟨q, hq⟩ := hdvd
        have h1 : v * 2 ^ b % W64 < W64 := Nat.mod_lt _ (by decide)
        rw [hq] at h1 ⊢
        have : q < 2 ^ (64 - b) := Nat.lt_of_mul_lt_mul_left (by rw [hbb]; exact h1)
        have := Nat.mul_le_mul_left (2 ^ b) this
        rw [hbb, Nat.mul_succ] at this
        omega
      refine bnd_plus' (k := b) rfl rfl htW (Nat.mod_lt _ (by decide)) hdvd ht ?_
      refine ho.store (j := k + j) (by omega) (by simp [hP]) hsum rfl fun w6 ho6 e6 => ?_
      have e6 := e5.own e6 ho.blk_le
      have hset : (P ++ t :: List.replicate (sz x - j) 0).set (k + j) (t + v * 2 ^ b % W64) = (P ++ [t + v * 2 ^ b % W64]) ++ 0 :: List.replicate (sz x - (j + 1)) 0 := by
        rw [show sz x - j = sz x - (j + 1) + 1 by omega, List.replicate_succ, ← hP]
        simp
      rw [hset] at ho6
      have hdm := Nat.div_add_mod (v * 2 ^ b) W64
      have hv' : vl W64 (P ++ [t + v * 2 ^ b % W64]) + W64 ^ (k + (j + 1)) * (v * 2 ^ b / W64) = vl W64 ((dg W64 x).take (j + 1)) * 2 ^ N := by
        rw [vl_snoc, hP, hgo, ← Nat.add_assoc, Nat.pow_succ]
        have : W64 ^ j * v * 2 ^ N = W64 ^ (k + j) * (v * 2 ^ b) := by rw [hkb, Nat.pow_add]; grind
        rw [Nat.add_mul, ← hv, this, ← hdm]
        grind
      have htop : v * 2 ^ b / W64 < 2 ^ b := by
        refine Nat.div_lt_of_lt_mul ?_
        exact Nat.mul_lt_mul_of_pos_right hd hpb
      refine j0 (fun w7 => Ow w7 w2.w.heap.size o ((P ++ [t + v * 2 ^ b % W64]) ++ (v * 2 ^ b / W64) :: List.replicate (sz x - (j + 1)) 0) ∧ Ext none_ w2 w7) ?_ ?_
      · refine cnd_d (fun hb0 => ?_) (fun hb0 => ?_)
        · refine bnd_wi (by omega) (by omega) (bnd_wi (by omega) (by omega) ?_)
          refine bnd_wu' (y := 64 - b) (by omega) (by rw [w64]; omega) ?_
          refine shrN (x := v) (n := 64 - b) rfl rfl (by show _ ≤ 64; omega) ?_
          have hq : v / 2 ^ (64 - b) = v * 2 ^ b / W64 := by rw [← hbb, Nat.mul_comm v, Nat.mul_div_mul_left _ _ hpb]
          rw [hq]
          refine ho6.store (j := k + j + 1) (by omega) (by simp [hP]) (Nat.lt_of_lt_of_le htop (by rw [w_pow]; exact Nat.pow_le_pow_right (by decide) (by omega))) rfl fun w8 ho8 e8 => ?_
          refine ⟨?_, e6.own e8 ho6.blk_le⟩
          rw [← hP, show P.length + 1 = (P ++ [t + v * 2 ^ b % W64]).length by simp] at ho8
          simpa using ho8
        · have : b = 0 := by omega
          subst this
          have : v * 2 ^ 0 / W64 = 0 := Nat.div_eq_of_lt (by simpa using hd)
          rw [this]
          exact ⟨ho6, e6⟩
      rintro w7 ⟨ho7, e7⟩
      exact bnd_wi (by omega) (by omega) ⟨sz x - (j + 1), by omega, j + 1, _, _, by omega, rfl, by omega, by simp [hP]; omega, htop, hv', ho7, e7⟩
    · have : j = sz x := by omega
      subst this
      refine ⟨_, ?_, ho, e5⟩
      rw [vl_take_all (by rw [dg_len]; exact Nat.le_refl _), vl_dg W2] at hv
      rw [Nat.sub_self, List.replicate_zero, vl_snoc, hP, hv]
  · rintro w5 ⟨P, hv, ho, e5⟩
    refine trO ho fun s' w7 e7 h7 => rt1 (c := .slice) _ ((e.trans e5).trans e7) ?_
    rw [hv] at h7
    exact (h7.less e.size).at
end Go.Proofs.Ythhohfgpaihngaa.Zg
