/- A part of the proofs of this seat's laws: words, lemmas or contracts of its functions. -/
import Derived.Test.YthhohfgpaihngaaZgQ2
import Derived.Test.YthhohfgpaihngaaZgK6
set_option linter.unusedVariables false
set_option linter.unusedSimpArgs false
set_option linter.unnecessarySimpa false
namespace Go.Proofs.Ythhohfgpaihngaa.Zg
open Go.RowKit

theorem vl_up {l : List Nat} {j : Nat} : vl B32 (l.take (2 * (j + 1))) = vl B32 (l.take (2 * j)) + W64 ^ j * (l.getD (2 * j) 0 + l.getD (2 * j + 1) 0 * B32) := by
  rw [show 2 * (j + 1) = 2 * j + 1 + 1 by omega, vl_take_getD, vl_take_getD, Nat.pow_succ, show B32 ^ (2 * j) = W64 ^ j by rw [Nat.pow_mul]; rfl]
  grind

theorem ref_To {w : TW} {s : Sl} {x : Nat} (hs : Dr w s x) (hx : dz x ≤ 274877906944) : Ct Pg F.zigguratref02_To [s.v] w none_ [.one .slice] fun (s' : Sl) w' => On w' w.w.heap.size s' x := by
  refine Ct.zigguratref02_To ?_
  unfold Sh.zigguratref02_To
  have ls := hs.len
  have hs := hs.here
  refine j1 (fun (o : Sl) w2 => ∃ P, Ow w2 w.here.w.heap.size o P ∧ vl W64 P = x ∧ Ext none_ w.here w2) ?_ ?_
  · refine lp2 (fun m (o : Sl) (i : Int) w2 => ∃ (j : Nat) (P : List Nat), i = (2 * j : Nat) ∧ m = dz x + 1 - 2 * j ∧ 2 * j ≤ dz x + 1 ∧ P.length = j ∧ Ow w2 w.here.w.heap.size o P ∧ vl W64 P = vl B32 ((dg B32 x).take (2 * j)) ∧ Ext none_ w.here w2) (dz x + 1) ⟨0, [], rfl, by omega, by omega, rfl, Ow.nil _ _, by simp [vl_nil], Ext.refl _ _⟩ ?_
    rintro m o i w2 ⟨j, P, rfl, rfl, hj, hP, ho, hv, e2⟩
    refine cnd_d (fun h => ?_) (fun h => ?_)
    · have ha := hs.lt (2 * j)
      have hb := hs.lt (2 * j + 1)
      have hgo := vl_up (l := dg B32 x) (j := j)
      have hj1 : 2 * j < (dg B32 x).length := by rw [dz_eq]; omega
      refine (Rd.ext hs e2).ix rfl hj1 (bnd_wi (by omega) (by omega) ?_)
      refine j1 (fun (y : Int) w3 => w3 = w2 ∧ y = ((dg B32 x).getD (2 * j) 0 + (dg B32 x).getD (2 * j + 1) 0 * B32 : Nat)) ?_ ?_
      · refine cnd_d (fun h1 => ?_) (fun h1 => ?_)
        · refine bnd_wi (by omega) (by omega) ((Rd.ext hs e2).ix (j := 2 * j + 1) (by omega) (by rw [dz_eq]; omega) ?_)
          generalize (dg B32 x).getD (2 * j) 0 = a at *
          generalize (dg B32 x).getD (2 * j + 1) 0 = b at *
          exact bnd_wu' (y := b * B32) (by simp) (by rw [w64, b32]; omega) (bnd_wu' (y := a + b * B32) (by simp) (by rw [w64, b32]; omega) ⟨rfl, rfl⟩)
        · rw [getD_past (l := dg B32 x) (k := 2 * j + 1) (by rw [dz_eq]; omega)]
          exact ⟨rfl, by simp⟩
      rintro y w3 ⟨rfl, rfl⟩
      generalize (dg B32 x).getD (2 * j) 0 = a at *
      generalize (dg B32 x).getD (2 * j + 1) 0 = b at *
      refine push ho e2 rfl (by rw [w64, b32]; omega) (by omega) fun o' w4 ho' e4 => ?_
      refine bnd_wi (by omega) (by omega) ⟨dz x + 1 - 2 * (j + 1), by omega, j + 1, _, by omega, rfl, by omega, by simp [hP], ho', ?_, e4⟩
      rw [vl_snoc, hP, hgo, hv]
    · refine ⟨P, ho, ?_, e2⟩
      rw [hv, vl_take_all (l := dg B32 x) (by rw [dz_eq]; omega), vl_dg b2]
  · rintro o w2 ⟨P, ho, hv, e2⟩
    refine j1 (fun (o : Sl) w3 => On w3 w.here.w.heap.size o x ∧ Ext none_ w.here w3) ?_ ?_
    · refine lp1 (fun m (o : Sl) w3 => ∃ P, m = P.length ∧ Ow w3 w.here.w.heap.size o P ∧ vl W64 P = x ∧ Ext none_ w.here w3) P.length ⟨P, rfl, ho, hv, e2⟩ ?_
      clear ho hv e2 P
      rintro m o w3 ⟨P, rfl, ho, hv, e3⟩
      have lo := ho.rd.len
      have hcap := ho.rd.cap
      refine j1 (fun (b : Bool) w4 => w4 = w3 ∧ b = decide (∃ h : 0 < P.length, P[P.length - 1] = 0)) ?_ ?_
      · refine cnd_d (fun h0 => ?_) (fun h0 => ?_)
        · refine bnd_wi (by omega) (by omega) (ho.rd.idx (j := P.length - 1) (by omega) (by omega) ⟨rfl, ?_⟩)
          rw [Bool.eq_iff_iff]
          simp
          exact ⟨fun h => ⟨by omega, h⟩, fun ⟨_, h⟩ => h⟩
        · exact ⟨rfl, by simp; omega⟩
      rintro b w4 ⟨rfl, rfl⟩
      refine cnd_d (fun h => ?_) (fun h => ?_)
      · obtain ⟨h1, h2⟩ := h
        refine bnd_wi (by omega) (by omega) (slc_of (l := 0) (h := P.length - 1) rfl (by omega) (Nat.zero_le _) (by omega) ?_)
        refine ⟨P.length - 1, by omega, P.take (P.length - 1), by simp, ho.cut0 (by omega), ?_, e3⟩
        rw [← hv]
        have := vl_take_succ (b := W64) (l := P) (k := P.length - 1) (by omega)
        rw [show P.length - 1 + 1 = P.length by omega, List.take_of_length_le (Nat.le_refl _), h2, Nat.mul_zero, Nat.add_zero] at this
        exact this.symm
      · refine ⟨?_, e3⟩
        have : dg W64 (vl W64 P) = P := dg_of_last W2 ho.sm fun y hy h0 => h ?_
        · rw [On, ← hv, this]; exact ho
        · rw [List.getLast?_eq_getElem?] at hy
          obtain ⟨h1, h2⟩ := List.getElem?_eq_some_iff.1 hy
          exact ⟨by omega, by rw [h2]; exact h0⟩
    · rintro o w3 ⟨ho, e3⟩
      exact rt1 (c := .slice) _ e3 ho.at

theorem ref_Same {w : TW} {s t : Sl} {x y : Nat} (hs : Dr w s x) (ht : Rd w t (dg W64 y)) (hx : dz x ≤ 274877906944) (hxy : x = y) : Ct Pg F.zigguratref02_Same [s.v, t.v] w none_ [.one .bool] fun (r : Bool) _ => r = true := by
  subst hxy
  refine Ct.zigguratref02_Same ?_
  unfold Sh.zigguratref02_Same
  refine c1 (ref_To hs.here hx) ?_
  intro o w1 e1 ho
  have h1 := ho.len
  have ht := ht.here.ext e1
  have h2 := ht.len
  rw [dg_len] at h2
  have hc := ht.le
  rw [dg_len] at hc
  have ho := ho.rd
  refine cnd_f (by simp; omega) ?_
  refine j0 (fun w' => Ext none_ w1 w') ?_ fun w' e => rt1 (c := .bool) _ (e1.trans e) rfl
  refine lp1 (fun m (i : Int) w' => ∃ j : Nat, i = j ∧ m = sz x - j ∧ j ≤ sz x ∧ Ext none_ w1 w') (sz x) ⟨0, rfl, by omega, by omega, Ext.refl _ _⟩ ?_
  rintro m i w' ⟨j, rfl, rfl, hj, e⟩
  refine cnd_d (fun h => ?_) (fun _ => e)
  refine (ho.ext e).drew.ix rfl (by rw [dg_len]; omega) ((ht.ext e).drew.ix rfl (by rw [dg_len]; omega) (cnd_f (by simp) ?_))
  exact bnd_wi (by omega) (by omega) ⟨sz x - (j + 1), by omega, j + 1, by omega, rfl, by omega, e.drew⟩

theorem two_split32 (n : Nat) : 2 ^ n = B32 ^ (n / 32) * 2 ^ (n % 32) := by
  rw [show B32 = 2 ^ 32 by decide, ← Nat.pow_mul, ← Nat.pow_add, Nat.div_add_mod]

theorem ref_Shl {w : TW} {s : Sl} {x n : Nat} (hs : Dr w s x) (hx : dz x ≤ 274877906944) (hn : n ≤ 8589934592) : Ct Pg F.zigguratref02_Shl [s.v, .int .i64 n] w none_ [.one .slice] fun (s' : Sl) w' => Dn w' w.w.heap.size s' (x * 2 ^ n) := by
  refine Ct.zigguratref02_Shl ?_
  unfold Sh.zigguratref02_Shl
  have ls := hs.len
  have hs := hs.here
  refine cnd_i (fun h0 => ?_) (fun h0 => ?_)
  · have : dz x = 0 := by simp at h0; omega
    rw [dz_zero] at this
    subst this
    refine rt1 (c := .slice) Sl.nil (Ext.refl _ _) ?_
    rw [Nat.zero_mul]
    exact Dn.nil _ _
  refine divNi (x := n) (y := 32) rfl rfl (by omega) (by decide) (divNi (x := n) (y := 32) rfl rfl (by omega) (by decide) ?_)
  have hrem : ∀ {K : Int → Prop}, K ((n % 32 : Nat) : Int) → remK (n : Int) 32 K := fun h => remN (x := n) (y := 32) rfl rfl (by decide) h
  obtain ⟨k, hk⟩ : ∃ k, k = n / 32 := ⟨_, rfl⟩
  obtain ⟨b, hb⟩ : ∃ b, b = n % 32 := ⟨_, rfl⟩
  have hkb : 2 ^ n = B32 ^ k * 2 ^ b := by rw [hk, hb]; exact two_split32 n
  rw [← hk]
  rw [← hb] at hrem
  have hb32 : b < 32 := by omega
  have hk1 : k ≤ 268435456 := by omega
  clear hk hb
  have hpb : 0 < 2 ^ b := Nat.two_pow_pos b
  have hbb : 2 ^ b ≤ 2147483648 := by
    have := Nat.pow_le_pow_right (n := 2) (by decide) (show b ≤ 31 by omega)
    exact this
  refine bnd_wi (by omega) (by omega) (bnd_wi (by omega) (by omega) ?_)
  refine mk_cap (n := k) (m := k + dz x + 1) rfl (by omega) (by omega) (by omega) fun f w1 hf _ _ e1 _ => ?_
  have ho := hf.cut0 (n := k) (by simp; omega)
  rw [List.take_replicate, Nat.min_eq_left (by omega)] at ho
  refine j2 (fun (o : Sl) (c : Int) w2 => ∃ P d : _, c = (d : Nat) ∧ d < 2 ^ b ∧ P.length = k + dz x ∧ Ow w2 w.here.w.heap.size o P ∧ Sm B32 P ∧ vl B32 P + B32 ^ (k + dz x) * d = x * 2 ^ n ∧ Ext none_ w.here w2) ?_ ?_
  · refine lp3 (fun m (o : Sl) (c i : Int) w2 => ∃ (j d : Nat) (P : List Nat), c = d ∧ i = j ∧ m = dz x - j ∧ j ≤ dz x ∧ d < 2 ^ b ∧ P.length = k + j ∧ Ow w2 w.here.w.heap.size o P ∧ Sm B32 P ∧ vl B32 P + B32 ^ (k + j) * d = vl B32 ((dg B32 x).take j) * 2 ^ n ∧ Ext none_ w.here w2) (dz x) ⟨0, 0, List.replicate k 0, rfl, rfl, by omega, by omega, hpb, by simp, ho, Sm.zeros (by decide) _, by rw [vl_zeros]; simp [vl_nil], e1⟩ ?_
    rintro m o c i w2 ⟨j, d, P, rfl, rfl, rfl, hj, hd, hP, ho, hsm, hv, e2⟩
    refine cnd_d (fun h => ?_) (fun h => ?_)
    · have ha := hs.lt j
      have hgo := vl_take_getD B32 (dg B32 x) j
      refine (Rd.ext hs e2).ix rfl (by rw [dz_eq]; omega) (hrem ?_)
      generalize (dg B32 x).getD j 0 = v at *
      have hvb : v * 2 ^ b ≤ 4294967295 * 2147483648 := Nat.mul_le_mul (by omega) hbb
      refine bnd_wu' (y := b) rfl (by rw [w64]; omega) (shlN (x := v) (n := b) rfl rfl (by omega) ?_)
      rw [Nat.mod_eq_of_lt (by rw [w64]; omega)]
      refine bnd_wu' (y := d + v * 2 ^ b) (by simp) (by rw [w64]; omega) ?_
      refine remN (x := d + v * 2 ^ b) (y := 4294967296) rfl rfl (by decide) ?_
      have hm : (d + v * 2 ^ b) % 4294967296 < B32 := Nat.mod_lt _ (by decide)
      refine push ho e2 rfl (bw hm) (by omega) fun o' w4 ho' e4 => ?_
      refine divNu (x := d + v * 2 ^ b) (y := 4294967296) rfl rfl (by rw [w64]; omega) (by decide) ?_
      have hq : (d + v * 2 ^ b) / 4294967296 < 2 ^ b := by
        refine Nat.div_lt_of_lt_mul ?_
        have := Nat.mul_le_mul_right (2 ^ b) ha
        rw [Nat.succ_mul] at this
        omega
      refine bnd_wi (by omega) (by omega) ⟨dz x - (j + 1), by omega, j + 1, _, _, rfl, by omega, rfl, by omega, hq, by simp [hP]; omega, ho', hsm.snoc hm, ?_, e4⟩
      have hdm := Nat.mod_add_div (d + v * 2 ^ b) 4294967296
      rw [vl_snoc, hP, ← Nat.add_assoc, Nat.pow_succ, hgo, Nat.add_mul, ← hv]
      have : B32 ^ j * v * 2 ^ n = B32 ^ (k + j) * (v * 2 ^ b) := by rw [hkb, Nat.pow_add]; grind
      rw [this]
      generalize (d + v * 2 ^ b) % 4294967296 = s1 at *
      generalize (d + v * 2 ^ b) / 4294967296 = c1 at *
      have e2 : B32 ^ (k + j) * s1 + B32 ^ (k + j) * B32 * c1 = B32 ^ (k + j) * (d + v * 2 ^ b) := by rw [← hdm]; grind
      grind
    · have : j = dz x := by omega
      subst this
      rw [vl_take_all (l := dg B32 x) (by rw [dz_eq]; exact Nat.le_refl _), vl_dg b2] at hv
      exact ⟨P, d, rfl, hd, hP, ho, hsm, hv, e2⟩
  · rintro o c w2 ⟨P, d, rfl, hd, hP, ho, hsm, hv, e2⟩
    refine push ho e2 rfl (by rw [w64]; omega) (by omega) fun o' w4 ho' e4 => ?_
    refine nm ho' (hsm.snoc (by rw [b32]; omega)) fun s' w' e' h' => rt1 (c := .slice) _ (e4.trans e') ?_
    rw [vl_snoc, hP, hv] at h'
    exact h'.at

theorem vl_drop_div32 {l : List Nat} (h : Sm B32 l) (k : Nat) : vl B32 (l.drop k) = vl B32 l / B32 ^ k := by
  rcases Nat.lt_or_ge l.length k with hk | hk
  · have hlt : vl B32 l < B32 ^ k := Nat.lt_of_lt_of_le (vl_lt h) (Nat.pow_le_pow_right (by decide) (Nat.le_of_lt hk))
    rw [List.drop_of_length_le (Nat.le_of_lt hk), Nat.div_eq_of_lt hlt]
    rfl
  · have h1 := vl_split B32 l k hk
    have h2 := vl_lt (h.take k)
    rw [List.length_take, Nat.min_eq_left hk] at h2
    have h3 : 0 < B32 ^ k := Nat.pow_pos (by decide)
    rw [h1, Nat.add_mul_div_left _ _ h3, Nat.div_eq_of_lt h2, Nat.zero_add]

theorem ref_Shr {w : TW} {s : Sl} {x n : Nat} (hs : Dr w s x) (hx : dz x ≤ 274877906944) (hn : n ≤ 8589934592) : Ct Pg F.zigguratref02_Shr [s.v, .int .i64 n] w none_ [.one .slice] fun (s' : Sl) w' => Dn w' w.w.heap.size s' (x / 2 ^ n) := by
  refine Ct.zigguratref02_Shr ?_
  unfold Sh.zigguratref02_Shr
  have ls := hs.len
  have hs := hs.here
  refine divNi (x := n) (y := 32) rfl rfl (by omega) (by decide) ?_
  have hrem : ∀ {K : Int → Prop}, K ((n % 32 : Nat) : Int) → remK (n : Int) 32 K := fun h => remN (x := n) (y := 32) rfl rfl (by decide) h
  obtain ⟨k, hk⟩ : ∃ k, k = n / 32 := ⟨_, rfl⟩
  obtain ⟨b, hb⟩ : ∃ b, b = n % 32 := ⟨_, rfl⟩
  have hkb : 2 ^ n = B32 ^ k * 2 ^ b := by rw [hk, hb]; exact two_split32 n
  rw [← hk]
  rw [← hb] at hrem
  have hb32 : b < 32 := by omega
  have hk1 : k ≤ 268435456 := by omega
  clear hk hb
  have hpb : 0 < 2 ^ b := Nat.two_pow_pos b
  have hbb : 2 ^ b * 2 ^ (32 - b) = B32 := by rw [← Nat.pow_add, show B32 = 2 ^ 32 by decide]; congr 1; omega
  have h232 : 2 ^ (32 - b) ≤ 4294967296 := by
    have := Nat.pow_le_pow_right (n := 2) (by decide) (show 32 - b ≤ 32 by omega)
    exact this
  obtain ⟨D, hD⟩ : ∃ D, D = (dg B32 x).drop k := ⟨_, rfl⟩
  have hDl : D.length = dz x - k := by rw [hD]; simp [dz_eq]
  have hDv : vl B32 D = x / B32 ^ k := by rw [hD, vl_drop_div32 (dg_sm b2 x) k, vl_dg b2]
  have hDg : ∀ i, (dg B32 x).getD (i + k) 0 = D.getD i 0 := fun i => by rw [hD]; simp [Nat.add_comm]
  have hDlt : ∀ i, D.getD i 0 < B32 := fun i => by rw [← hDg]; exact hs.lt _
  refine j1 (fun (o : Sl) w2 => ∃ P, Ow w2 w.here.w.heap.size o P ∧ Sm B32 P ∧ vl B32 P = x / 2 ^ n ∧ Ext none_ w.here w2) ?_ ?_
  · refine lp2 (fun m (o : Sl) (i : Int) w2 => ∃ (j : Nat) (P : List Nat), i = (k + j : Nat) ∧ m = D.length - j ∧ j ≤ D.length ∧ P.length = j ∧ 2 ^ b * vl B32 P + D.getD 0 0 % 2 ^ b = vl B32 (D.take j) + B32 ^ j * (D.getD j 0 % 2 ^ b) ∧ Ow w2 w.here.w.heap.size o P ∧ Sm B32 P ∧ Ext none_ w.here w2) D.length ⟨0, [], rfl, by omega, by omega, rfl, by simp [vl_nil], Ow.nil _ _, Sm.nil _, Ext.refl _ _⟩ ?_
    rintro m o i w2 ⟨j, P, rfl, rfl, hj, hP, hv, ho, hsm, e2⟩
    refine cnd_d (fun h1 => ?_) (fun h1 => ?_)
    · have hj1 : j < D.length := by omega
      refine (Rd.ext hs e2).ix (j := j + k) (by omega) (by rw [dz_eq]; omega) (hrem ?_)
      rw [hDg]
      have hd := hDlt j
      have hd1 := hDlt (j + 1)
      have hgo := vl_take_getD B32 D j
      have hpast : D.length ≤ j + 1 → D.getD (j + 1) 0 = 0 := fun h => getD_past h
      generalize hv0 : D.getD j 0 = v at *
      generalize hu0 : D.getD (j + 1) 0 = u at *
      rw [b32] at hd hd1
      refine bnd_wu' (y := b) rfl (by rw [w64]; omega) (shrN (x := v) (n := b) rfl rfl (by show _ ≤ 64; omega) (bnd_wi (by omega) (by omega) ?_))
      have hq : v / 2 ^ b < 2 ^ (32 - b) := Nat.div_lt_of_lt_mul (by rw [hbb]; exact hd)
      have hum : u % 2 ^ b < 2 ^ b := Nat.mod_lt _ hpb
      have hsum : v / 2 ^ b + u % 2 ^ b * 2 ^ (32 - b) < B32 := by
        have := Nat.mul_le_mul_right (2 ^ (32 - b)) hum
        rw [hbb, Nat.succ_mul] at this
        omega
      refine j1 (fun (y : Int) w3 => w3 = w2 ∧ y = (v / 2 ^ b + u % 2 ^ b * 2 ^ (32 - b) : Nat)) ?_ ?_
      · refine cnd_d (fun h2 => ?_) (fun h2 => ?_)
        · refine bnd_wi (by omega) (by omega) ((Rd.ext hs e2).ix (j := j + 1 + k) (by omega) (by rw [dz_eq]; omega) (hrem ?_))
          rw [hDg, hu0]
          refine bnd_wi (by omega) (by omega) (bnd_wu' (y := 32 - b) (by omega) (by rw [w64]; omega) (shlN (x := u) (n := 32 - b) rfl rfl (by omega) ?_))
          have h3 : u * 2 ^ (32 - b) ≤ 4294967295 * 4294967296 := Nat.mul_le_mul (by omega) h232
          rw [Nat.mod_eq_of_lt (by rw [w64]; omega)]
          refine remN (x := u * 2 ^ (32 - b)) (y := 4294967296) rfl rfl (by decide) ?_
          have h4 : u * 2 ^ (32 - b) % 4294967296 = u % 2 ^ b * 2 ^ (32 - b) := by rw [← b32, ← hbb, Nat.mul_mod_mul_right]
          rw [h4]
          exact bnd_wu' (y := v / 2 ^ b + u % 2 ^ b * 2 ^ (32 - b)) (by simp) (bw hsum) ⟨rfl, rfl⟩
        · rw [hpast (by omega), Nat.zero_mod, Nat.zero_mul, Nat.add_zero]
          exact ⟨rfl, rfl⟩
      rintro y w3 ⟨rfl, rfl⟩
      refine remN (x := v / 2 ^ b + u % 2 ^ b * 2 ^ (32 - b)) (y := 4294967296) rfl rfl (by decide) ?_
      rw [Nat.mod_eq_of_lt (b := 4294967296) hsum]
      refine push ho e2 rfl (bw hsum) (by omega) fun o' w4 ho' e4 => ?_
      refine bnd_wi (by omega) (by omega) ⟨D.length - (j + 1), by omega, j + 1, _, by omega, rfl, by omega, by simp [hP], ?_, ho', hsm.snoc hsum, e4⟩
      have hdm := Nat.div_add_mod v (2 ^ b)
      rw [hu0, vl_snoc, hP, hgo, Nat.pow_succ]
      have h3 : 2 ^ b * (B32 ^ j * (v / 2 ^ b + u % 2 ^ b * 2 ^ (32 - b))) = B32 ^ j * (2 ^ b * (v / 2 ^ b)) + B32 ^ j * (u % 2 ^ b) * (2 ^ b * 2 ^ (32 - b)) := by grind
      rw [Nat.mul_add, h3, hbb]
      have h4 : B32 ^ j * v = B32 ^ j * (2 ^ b * (v / 2 ^ b)) + B32 ^ j * (v % 2 ^ b) := by rw [← Nat.mul_add, hdm]
      grind
    · refine ⟨P, ho, hsm, ?_, e2⟩
      have hj : j = D.length := by omega
      subst hj
      rw [vl_take_all (Nat.le_refl _), getD_past (Nat.le_refl _), Nat.zero_mod, Nat.mul_zero, Nat.add_zero, hDv] at hv
      rw [hkb, ← Nat.div_div_eq_div_mul, ← hv, Nat.mul_add_div hpb, Nat.div_eq_of_lt (Nat.mod_lt _ hpb), Nat.add_zero]
  · rintro o w2 ⟨P, ho, hsm, hv, e2⟩
    refine nm ho hsm fun s' w' e' h' => rt1 (c := .slice) _ (e2.trans e') ?_
    rw [hv] at h'
    exact h'.at

theorem ref_Low {w : TW} {s : Sl} {x n : Nat} (hs : Dr w s x) (hx : dz x ≤ 274877906944) (hn : n ≤ 8589934592) : Ct Pg F.zigguratref02_Low [s.v, .int .i64 n] w none_ [.one .slice] fun (s' : Sl) w' => Dn w' w.w.heap.size s' (x % 2 ^ n) := by
  refine Ct.zigguratref02_Low ?_
  unfold Sh.zigguratref02_Low
  have h1 : x / 2 ^ n * 2 ^ n ≤ x := Nat.div_mul_le_self _ _
  refine c1 (ref_Shr hs.here hx hn) ?_
  intro s1 w1 e1 h2
  refine c1 (ref_Shl h2.dr (by have := dz_mono (Nat.div_le_self x (2 ^ n)); omega) hn) ?_
  intro s2 w2 e2 h3
  refine c1 (ref_Sub ((hs.here.ext e1).ext e2) h3.dr hx h1) ?_
  intro s3 w3 e3 h4
  refine rt1 (c := .slice) _ ((e1.trans e2).trans e3) ?_
  have : x - x / 2 ^ n * 2 ^ n = x % 2 ^ n := by have := Nat.div_add_mod x (2 ^ n); rw [Nat.mul_comm] at this; omega
  rw [this] at h4
  exact (h4.less (e1.trans e2).size).at
end Go.Proofs.Ythhohfgpaihngaa.Zg
