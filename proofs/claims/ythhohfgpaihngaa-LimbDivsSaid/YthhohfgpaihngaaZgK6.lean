/- A part of the proofs of this seat's laws: words, lemmas or contracts of its functions. -/
import Derived.Test.YthhohfgpaihngaaZgK5
set_option linter.unusedVariables false
set_option linter.unusedSimpArgs false
set_option linter.unnecessarySimpa false
namespace Go.Proofs.Ythhohfgpaihngaa.Zg

theorem div_pow_small {x k b : Nat} (h : sz x ≤ k) : x / (W64 ^ k * b) = 0 := by
  rw [← Nat.div_div_eq_div_mul, Nat.div_eq_of_lt (pow_lt h), Nat.zero_div]

theorem limb_Shr {w : TW} {s : Sl} {x : Nat} {n : Int} (hs : Nt w s x) (hx : sz x ≤ 1099511627776) : Ct Pg F.limb_Shr [s.v, .int .i64 n] w none_ [.one .slice] fun (s' : Sl) w' => On w' w.w.heap.size s' (x / 2 ^ min n.toNat 1048576) := by
  refine Ct.limb_Shr ?_
  unfold Sh.limb_Shr
  refine c1 (limb_within (by decide)) ?_
  rintro r w1 e1 rfl
  refine tr (hs.here.ext e1) fun s2 w2 e2 ha => ?_
  have e := e1.trans e2
  have la := ha.len
  rw [dg_len] at la
  have hn : min n.toNat (1048576 : Int).toNat ≤ 1048576 := by omega
  rw [show (1048576 : Int).toNat = 1048576 by rfl] at hn ⊢
  generalize min n.toNat 1048576 = N at *
  refine divNi (x := N) (y := 64) rfl rfl (by omega) (by decide) (remN (x := N) (y := 64) rfl rfl (by decide) ?_)
  refine bnd_wu' (y := N % 64) rfl (by rw [w64]; omega) ?_
  obtain ⟨k, hk⟩ : ∃ k, k = N / 64 := ⟨_, rfl⟩
  obtain ⟨b, hb⟩ : ∃ b, b = N % 64 := ⟨_, rfl⟩
  have hkb : 2 ^ N = W64 ^ k * 2 ^ b := by rw [hk, hb]; exact two_split N
  rw [← hk, ← hb]
  have hb64 : b < 64 := by omega
  have hk1 : k ≤ 16384 := by omega
  clear hk hb
  have hpb : 0 < 2 ^ b := Nat.two_pow_pos b
  have hbb : 2 ^ b * 2 ^ (64 - b) = W64 := by rw [← Nat.pow_add, w_pow]; congr 1; omega
  refine cnd_d (fun h0 => ?_) (fun h0 => ?_)
  · refine rt1 (c := .slice) Sl.nil e ?_
    rw [hkb, div_pow_small (by omega)]
    exact On.nil _ _
  have h0 : k < sz x := by omega
  refine bnd_wi (by omega) (by omega) ?_
  refine mk_u64 (N := sz x - k) (by omega) (by omega) fun o w4 ho hon e4 hbk => ?_
  obtain ⟨D, hD⟩ : ∃ D, D = (dg W64 x).drop k := ⟨_, rfl⟩
  have hDl : D.length = sz x - k := by rw [hD]; simp [dg_len]
  have hDv : vl W64 D = x / W64 ^ k := by rw [hD, (vl_drop_div (dg_sm W2 x) k).1, vl_dg W2]
  have hDg : ∀ i, (dg W64 x).getD (i + k) 0 = D.getD i 0 := fun i => by rw [hD]; simp [Nat.add_comm]
  have hDlt : ∀ i, D.getD i 0 < W64 := fun i => by rw [← hDg]; exact ha.lt _
  refine j0 (fun w5 => ∃ (P : List Nat), vl W64 P = x / 2 ^ N ∧ Ow w5 w2.w.heap.size o P ∧ Ext none_ w2 w5) ?_ ?_
  · refine lp1 (fun m (i : Int) w5 => ∃ (j : Nat) (P : List Nat), i = j ∧ m = D.length - j ∧ j ≤ D.length ∧ P.length = j ∧ 2 ^ b * vl W64 P + D.getD 0 0 % 2 ^ b = vl W64 (D.take j) + W64 ^ j * (D.getD j 0 % 2 ^ b) ∧ Ow w5 w2.w.heap.size o (P ++ List.replicate (D.length - j) 0) ∧ Ext none_ w2 w5) D.length ⟨0, [], rfl, by omega, by omega, rfl, by simp [vl_nil], by rw [hDl]; exact ho, e4⟩ ?_
    rintro m i w5 ⟨j, P, rfl, rfl, hj, hP, hv, ho, e5⟩
    refine cnd_d (fun h1 => ?_) (fun h1 => ?_)
    · have hj1 : j < D.length := by omega
      refine bnd_wi (by omega) (by omega) ?_
      refine (ha.ext e5).ix (j := j + k) (by omega) (by rw [dg_len]; omega) ?_
      rw [hDg]
      have hd := hDlt j
      have hd1 := hDlt (j + 1)
      have hgo := vl_take_getD W64 D j
      have hpast : D.length ≤ j + 1 → D.getD (j + 1) 0 = 0 := fun h => getD_past h
      generalize hv0 : D.getD j 0 = v at *
      generalize hu0 : D.getD (j + 1) 0 = u at *
      refine shrN (x := v) (n := b) rfl rfl (by show _ ≤ 64; omega) ?_
      have hq : v / 2 ^ b < W64 := Nat.lt_of_le_of_lt (Nat.div_le_self _ _) hd
      rw [show D.length - j = (D.length - (j + 1)) + 1 by omega] at ho
      refine ho.put (by omega) hq rfl fun w6 ho6 e6 => ?_
      have e6 := e5.own e6 ho.blk_le
      refine j1 (fun (c : Bool) w7 => w7 = w6 ∧ c = decide (0 < b ∧ j + 1 < D.length)) ?_ ?_
      · refine cnd_d (fun h2 => ?_) (fun h2 => ?_)
        · refine bnd_wi (by omega) (by omega) (bnd_wi (by omega) (by omega) ⟨rfl, ?_⟩)
          rw [Bool.eq_iff_iff]; simp; omega
        · refine ⟨rfl, ?_⟩
          rw [Bool.eq_iff_iff]; simp; omega
      rintro c w7 ⟨rfl, rfl⟩
      have hdm := Nat.div_add_mod v (2 ^ b)
      have hval : 2 ^ b * vl W64 (P ++ [v / 2 ^ b + u % 2 ^ b * 2 ^ (64 - b)]) + D.getD 0 0 % 2 ^ b = vl W64 (D.take (j + 1)) + W64 ^ (j + 1) * (u % 2 ^ b) := by
        rw [vl_snoc, hP, hgo, Nat.pow_succ]
        have h3 : 2 ^ b * (W64 ^ j * (v / 2 ^ b + u % 2 ^ b * 2 ^ (64 - b))) = W64 ^ j * (2 ^ b * (v / 2 ^ b)) + W64 ^ j * (u % 2 ^ b) * (2 ^ b * 2 ^ (64 - b)) := by grind
        rw [Nat.mul_add, h3, hbb]
        have h4 : W64 ^ j * v = W64 ^ j * (2 ^ b * (v / 2 ^ b)) + W64 ^ j * (v % 2 ^ b) := by rw [← Nat.mul_add, hdm]
        grind
      refine j0 (fun w8 => Ow w8 w2.w.heap.size o ((P ++ [v / 2 ^ b + u % 2 ^ b * 2 ^ (64 - b)]) ++ List.replicate (D.length - (j + 1)) 0) ∧ Ext none_ w2 w8) ?_ ?_
      · refine cnd_d (fun h2 => ?_) (fun h2 => ?_)
        · have hg : ((P ++ [v / 2 ^ b] ++ List.replicate (D.length - (j + 1)) 0).getD j 0) = v / 2 ^ b := by simp [← hP]
          refine ho6.drew.rd.ix (j := j) rfl (by simp [hP]) ?_
          rw [hg]
          refine bnd_wi (by omega) (by omega) (bnd_wi (by omega) (by omega) ?_)
          refine (ha.ext e6).drew.ix (j := j + 1 + k) (by omega) (by rw [dg_len]; omega) ?_
          rw [hDg, hu0]
          refine bnd_wu' (y := 64 - b) (by omega) (by rw [w64]; omega) ?_
          refine shlN (x := u) (n := 64 - b) rfl rfl (by omega) ?_
          have hmod : u * 2 ^ (64 - b) % W64 = u % 2 ^ b * 2 ^ (64 - b) := by rw [← hbb, Nat.mul_mod_mul_right]
          have hlt : v / 2 ^ b < 2 ^ (64 - b) := Nat.div_lt_of_lt_mul (by rw [hbb]; exact hd)
          have hu2 : u % 2 ^ b * 2 ^ (64 - b) < W64 := by rw [← hmod]; exact Nat.mod_lt _ (by decide)
          have hsum : v / 2 ^ b + u % 2 ^ b * 2 ^ (64 - b) < W64 := by
            have : u % 2 ^ b < 2 ^ b := Nat.mod_lt _ hpb
            have := Nat.mul_le_mul_right (2 ^ (64 - b)) this
            rw [hbb, Nat.succ_mul] at this
            omega
          refine bnd_plus' (k := 64 - b) rfl rfl hq (Nat.mod_lt _ (by decide)) (by rw [hmod]; exact Nat.dvd_mul_left _ _) hlt ?_
          rw [hmod]
          refine ho6.drew.store (j := j) rfl (by simp [hP]) hsum rfl fun w8 ho8 e8 => ?_
          refine ⟨?_, e6.drew.own e8 ho6.blk_le⟩
          have : (P ++ [v / 2 ^ b] ++ List.replicate (D.length - (j + 1)) 0).set j (v / 2 ^ b + u % 2 ^ b * 2 ^ (64 - b)) = (P ++ [v / 2 ^ b + u % 2 ^ b * 2 ^ (64 - b)]) ++ List.replicate (D.length - (j + 1)) 0 := by simp [← hP]
          rwa [this] at ho8
        · have : u % 2 ^ b = 0 := by
            rcases Nat.eq_zero_or_pos b with h | h
            · subst h; exact Nat.mod_one _
            · rw [hpast (by omega)]; exact Nat.zero_mod _
          rw [this, Nat.zero_mul, Nat.add_zero]
          exact ⟨ho6, e6⟩
      rintro w8 ⟨ho8, e8⟩
      exact bnd_wi (by omega) (by omega) ⟨D.length - (j + 1), by omega, j + 1, _, by omega, rfl, by omega, by simp [hP], by rw [hu0]; exact hval, ho8, e8⟩
    · have : j = D.length := by omega
      subst this
      rw [Nat.sub_self, List.replicate_zero, List.append_nil] at ho
      refine ⟨P, ?_, ho, e5⟩
      rw [vl_take_all (Nat.le_refl _), getD_past (Nat.le_refl _), Nat.zero_mod, Nat.mul_zero, Nat.add_zero, hDv] at hv
      rw [hkb, ← Nat.div_div_eq_div_mul, ← hv, Nat.mul_add_div hpb, Nat.div_eq_of_lt (Nat.mod_lt _ hpb), Nat.add_zero]
  · rintro w5 ⟨P, hv, ho, e5⟩
    refine trO ho fun s' w7 e7 h7 => rt1 (c := .slice) _ ((e.trans e5).trans e7) ?_
    rw [hv] at h7
    exact (h7.less e.size).at

theorem Ow.size {w : TW} {B : Nat} {s : Sl} {l : List Nat} (h : Ow w B s l) : s.n = l.length := h.rd.len

theorem slc_of {s : Sl} {lo hi : Int} {l h : Nat} {K : Sl → Prop} (h1 : lo = l) (h2 : hi = h) (h3 : l ≤ h) (h4 : h ≤ s.c) (hK : K (s.cut l h 1)) : slc s lo hi 1 K := by
  subst h1 h2
  exact ⟨by omega, by omega, by omega, by simpa using hK⟩

theorem limb_Low {w : TW} {s : Sl} {x : Nat} {n : Int} (hs : Nt w s x) (hx : sz x ≤ 549755813888) : Ct Pg F.limb_Low [s.v, .int .i64 n] w none_ [.one .slice] fun (s' : Sl) w' => On w' w.w.heap.size s' (x % 2 ^ min n.toNat 1048576) := by
  refine Ct.limb_Low ?_
  unfold Sh.limb_Low
  refine c1 (limb_within (by decide)) ?_
  rintro r w1 e1 rfl
  refine tr (hs.here.ext e1) fun s2 w2 e2 ha => ?_
  have e := e1.trans e2
  have la := ha.len
  rw [dg_len] at la
  have hn : min n.toNat (1048576 : Int).toNat ≤ 1048576 := by omega
  rw [show (1048576 : Int).toNat = 1048576 by rfl] at hn ⊢
  generalize min n.toNat 1048576 = N at *
  refine divNi (x := N) (y := 64) rfl rfl (by omega) (by decide) (remN (x := N) (y := 64) rfl rfl (by decide) ?_)
  refine bnd_wu' (y := N % 64) rfl (by rw [w64]; omega) ?_
  obtain ⟨k, hk⟩ : ∃ k, k = N / 64 := ⟨_, rfl⟩
  obtain ⟨b, hb⟩ : ∃ b, b = N % 64 := ⟨_, rfl⟩
  have hkb : 2 ^ N = W64 ^ k * 2 ^ b := by rw [hk, hb]; exact two_split N
  rw [← hk, ← hb]
  have hb64 : b < 64 := by omega
  have hk1 : k ≤ 16384 := by omega
  clear hk hb
  have hpb : 0 < 2 ^ b := Nat.two_pow_pos b
  have hbb : 2 ^ b * 2 ^ (64 - b) = W64 := by rw [← Nat.pow_add, w_pow]; congr 1; omega
  have hcap := ha.cap
  rw [dg_len] at hcap
  refine cnd_d (fun h0 => ?_) (fun h0 => ?_)
  · refine ha.copy e.size (by rw [dg_len]; omega) fun s3 w3 h3 e3 _ => rt1 (c := .slice) _ (e.trans e3) ?_
    rw [Nat.mod_eq_of_lt]
    · exact h3.at
    · rw [hkb]; exact Nat.lt_of_lt_of_le (pow_lt (by omega : sz x ≤ k)) (Nat.le_mul_of_pos_right _ hpb)
  have h0 : k < sz x := by omega
  refine slc_of (l := 0) (h := k) rfl rfl (by omega) (by omega) ?_
  have hc := ha.cut (Nat.zero_le k) (by rw [dg_len]; omega)
  rw [List.drop_zero] at hc
  refine hc.copy (B := w2.w.heap.size) (Nat.le_refl _) (by simp; omega) fun s3 w3 h3 e3 _ => ?_
  refine j1 (fun (t : Sl) w4 => ∃ P, Ow w4 w2.w.heap.size t P ∧ vl W64 P = x % 2 ^ N ∧ Ext none_ w2 w4) ?_ ?_
  · have hrest : ∀ X, vl W64 ((dg W64 x).take k) + W64 ^ k * (((dg W64 x).getD k 0) % 2 ^ b) = X → x % 2 ^ N = X := fun X hX => by
      subst hX
      have h1 := vl_drop_div (dg_sm W2 x) k
      rw [vl_dg W2] at h1
      have h2 := vl_drop_div (dg_sm W2 x) (k + 1)
      rw [vl_dg W2, vl_take_getD] at h2
      have h3 : x / W64 ^ k % W64 = (dg W64 x).getD k 0 := by
        rw [← h1.1]
        have := (vl_drop_div ((dg_sm W2 x).drop k) 1).2
        rw [Nat.pow_one] at this
        rw [← this, List.drop_eq_getElem_cons (by rw [dg_len]; exact h0), List.take_succ_cons, List.take_zero, vl_one]
        have h9 : k < (dg W64 x).length := h0
        simp [h9]
      rw [h1.2, ← h3, hkb, Nat.mod_mul, Nat.mod_mod_of_dvd _ ⟨_, hbb.symm⟩]
    refine cnd_d (fun h1 => ?_) (fun h1 => ?_)
    · refine (ha.ext e3).ix rfl (by rw [dg_len]; omega) ?_
      have hlt := ha.lt k
      refine shlN (x := 1) (n := b) rfl rfl (by omega) ?_
      have h2b : 2 ^ b < W64 := by rw [w_pow]; exact Nat.pow_lt_pow_right (by decide) hb64
      rw [Nat.one_mul, Nat.mod_eq_of_lt h2b]
      refine bnd_wu' (y := 2 ^ b - 1) (by omega) (by omega) ?_
      refine bnd_low (x := (dg W64 x).getD k 0) (k := b) rfl rfl hlt (by omega) ?_
      have hm : (dg W64 x).getD k 0 % 2 ^ b < W64 := Nat.lt_of_le_of_lt (Nat.mod_le _ _) hlt
      refine nw_u64 rfl hm fun bb w4 h4 e4 => ?_
      refine (h3.ext e4).cat h4.rd (Nat.le_trans e3.size e4.size) (by simp; omega) fun s5 w5 h5 e5 _ => ?_
      refine ⟨_, h5, ?_, (e3.trans e4).own e5 h3.blk_le⟩
      rw [vl_snoc]
      refine (hrest _ ?_).symm
      congr 3
      have h9 : k ≤ (dg W64 x).length := Nat.le_of_lt h0
      simp [h9]
    · have : b = 0 := by omega
      subst this
      refine ⟨_, h3, ?_, e3⟩
      exact (hrest _ (by simp [Nat.mod_one])).symm
  · rintro t w4 ⟨P, h4, hv, e4⟩
    refine trO h4 fun s' w7 e7 h7 => rt1 (c := .slice) _ ((e.trans e4).trans e7) ?_
    rw [hv] at h7
    exact (h7.less e.size).at

theorem limb_Split {w : TW} {s : Sl} {x : Nat} {k : Int} (hs : Nt w s x) (hx : sz x ≤ 1099511627776) : Ct Pg F.limb_Split [s.v, .int .i64 k] w none_ [.one .slice, .one .slice] fun (a b : Sl) w' => On w' w.w.heap.size a (x % W64 ^ min k.toNat 16384) ∧ On w' w.w.heap.size b (x / W64 ^ min k.toNat 16384) ∧ (∀ c, b.blk = some c → ¬ a.blk = some c) := by
  refine Ct.limb_Split ?_
  unfold Sh.limb_Split
  refine c1 (limb_within (by decide)) ?_
  rintro r w1 e1 rfl
  refine tr (hs.here.ext e1) fun s2 w2 e2 ha => ?_
  have e := e1.trans e2
  have la := ha.len
  have hcap := ha.cap
  rw [dg_len] at la hcap
  rw [show (16384 : Int).toNat = 16384 by rfl]
  generalize min k.toNat 16384 = N at *
  refine cnd_d (fun h0 => ?_) (fun h0 => ?_)
  · refine ha.copy e.size (by rw [dg_len]; omega) fun s3 w3 h3 e3 _ => rt2 (c := .slice) (d := .slice) s3 Sl.nil (e.trans e3) ?_
    have hlt : x < W64 ^ N := pow_lt (by omega)
    rw [Nat.mod_eq_of_lt hlt, Nat.div_eq_of_lt hlt]
    exact ⟨h3.at, On.nil _ _, fun c hc => by simp [Sl.blk] at hc⟩
  · refine slc_of (l := 0) (h := N) rfl rfl (by omega) (by omega) (slc_of (l := N) (h := s2.n) rfl rfl (by omega) (by omega) ?_)
    have hlo := ha.cut (Nat.zero_le N) (by rw [dg_len]; omega)
    have hhi := ha.cut (lo := N) (hi := s2.n) (by omega) (by rw [dg_len]; omega)
    rw [List.drop_zero] at hlo
    rw [List.take_of_length_le (by rw [dg_len]; omega), dg_drop] at hhi
    refine c1 (limb_Norm hlo.drew.nt (Nat.le_trans (sz_vl hlo.sm) (by simp; omega))) ?_
    intro s4 w4 e4 h4
    have hhi := hhi.drew.ext e4
    have e := e.drew.trans e4
    refine hhi.copy (B := w.here.w.heap.size) e.size ?_ fun s5 w5 h5 e5 hb5 => rt2 (c := .slice) (d := .slice) _ _ (e.trans e5) ⟨?_, h5.at, fun c hc ha => ?_⟩
    · have := sz_mono (Nat.div_le_self x (W64 ^ N)); rw [dg_len]; omega
    · rw [(vl_drop_div (dg_sm W2 x) N).2, vl_dg W2] at h4
      exact ((h4.ext e5).less (e1.trans e2).size).at
    · have := hb5 c hc
      have := (Ow.from_ h4 c ha).2
      omega
end Go.Proofs.Ythhohfgpaihngaa.Zg
