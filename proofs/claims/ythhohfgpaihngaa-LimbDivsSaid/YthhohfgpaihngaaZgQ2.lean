/- A part of the proofs of this seat's laws: words, lemmas or contracts of its functions. -/
import Derived.Test.YthhohfgpaihngaaZgQ1
set_option linter.unusedVariables false
set_option linter.unusedSimpArgs false
set_option linter.unnecessarySimpa false
namespace Go.Proofs.Ythhohfgpaihngaa.Zg
open Go.RowKit

theorem ref_Add {w : TW} {s t : Sl} {x y : Nat} (hs : Dr w s x) (ht : Dr w t y) (hx : dz x ≤ 274877906944) (hy : dz y ≤ 274877906944) : Ct Pg F.zigguratref02_Add [s.v, t.v] w none_ [.one .slice] fun (s' : Sl) w' => Dn w' w.w.heap.size s' (x + y) := by
  refine Ct.zigguratref02_Add ?_
  unfold Sh.zigguratref02_Add
  have ls := hs.len
  have lt := ht.len
  have hs := hs.here
  have ht := ht.here
  obtain ⟨n, hn⟩ : ∃ n, n = max (dz x) (dz y) := ⟨_, rfl⟩
  refine bnd_i (bnd_wi (by split <;> omega) (by split <;> omega) (mk_0 (m := n + 1) (by split <;> omega) (by omega) fun o w1 ho e1 => ?_))
  refine j1 (fun (o : Sl) w2 => ∃ P, Ow w2 w.here.w.heap.size o P ∧ Sm B32 P ∧ vl B32 P = x + y ∧ Ext none_ w.here w2) ?_ ?_
  · refine lp3 (fun m (o : Sl) (c i : Int) w2 => ∃ (j d : Nat) (P : List Nat), c = d ∧ i = j ∧ m = 2 * (n - j) + d ∧ j ≤ n + 1 ∧ d ≤ 1 ∧ P.length = j ∧ Ow w2 w.here.w.heap.size o P ∧ Sm B32 P ∧ vl B32 P + B32 ^ j * d = vl B32 ((dg B32 x).take j) + vl B32 ((dg B32 y).take j) ∧ Ext none_ w.here w2 ∧ (j = n + 1 → d = 0)) (2 * n) ⟨0, 0, [], rfl, rfl, by omega, by omega, by omega, rfl, ho, Sm.nil _, rfl, e1, fun h => by omega⟩ ?_
    rintro m o c i w2 ⟨j, d, P, rfl, rfl, rfl, hj, hd, hP, ho, hsm, hv, e2, hend⟩
    refine j1 (fun (b : Bool) w3 => w3 = w2 ∧ b = decide (j < n ∨ 0 < d)) ?_ ?_
    · refine cnd_d (fun h => ⟨rfl, ?_⟩) (fun h => cnd_d (fun h2 => ⟨rfl, ?_⟩) (fun h2 => ⟨rfl, ?_⟩))
      · rw [eq_comm, decide_eq_true_iff]; left; omega
      · rw [eq_comm, decide_eq_true_iff]; left; omega
      · rw [Bool.eq_iff_iff, decide_eq_true_iff, decide_eq_true_iff]; omega
    rintro b w3 ⟨rfl, rfl⟩
    refine cnd_d (fun h => ?_) (fun h => ?_)
    · have ha := hs.lt j
      have hb := ht.lt j
      have ga := vl_take_getD B32 (dg B32 x) j
      have gb := vl_take_getD B32 (dg B32 y) j
      refine (hs.ext e2).add0 rfl rfl (by rw [w64]; omega) ((ht.ext e2).add0 rfl rfl (by rw [w64]; omega) ?_)
      have hpast : n ≤ j → (dg B32 x).getD j 0 = 0 ∧ (dg B32 y).getD j 0 = 0 := fun h => ⟨getD_past (by rw [dz_eq]; omega), getD_past (by rw [dz_eq]; omega)⟩
      generalize (dg B32 x).getD j 0 = a at *
      generalize (dg B32 y).getD j 0 = b at *
      refine remN (x := d + a + b) (y := 4294967296) rfl rfl (by decide) ?_
      have hm : (d + a + b) % 4294967296 < B32 := Nat.mod_lt _ (by decide)
      refine push ho e2 rfl (bw hm) (by omega) fun o' w4 ho' e4 => ?_
      refine divNu (x := d + a + b) (y := 4294967296) rfl rfl (by rw [w64]; omega) (by decide) ?_
      have hm2 : 2 * (n - (j + 1)) + (d + a + b) / 4294967296 < 2 * (n - j) + d := by
        rcases Nat.lt_or_ge j n with h | h
        · omega
        · obtain ⟨h1, h2⟩ := hpast h; omega
      refine bnd_wi (by omega) (by omega) ⟨_, hm2, j + 1, _, _, rfl, by omega, rfl, by omega, by omega, by simp [hP], ho', hsm.snoc hm, ?_, e4, fun h5 => ?_⟩
      · have hdm := Nat.mod_add_div (d + a + b) 4294967296
        rw [vl_snoc, hP, Nat.pow_succ, ga, gb]
        generalize (d + a + b) % 4294967296 = s1 at *
        generalize (d + a + b) / 4294967296 = c1 at *
        have e2 : B32 ^ j * s1 + B32 ^ j * B32 * c1 = B32 ^ j * (d + a + b) := by rw [← hdm]; grind
        grind
      · obtain ⟨h1, h2⟩ := hpast (by omega); omega
    · refine ⟨P, ho, hsm, ?_, e2⟩
      have : d = 0 := by omega
      subst this
      rw [vl_take_all (l := dg B32 x) (by rw [dz_eq]; omega), vl_take_all (l := dg B32 y) (by rw [dz_eq]; omega), vl_dg b2, vl_dg b2] at hv
      simpa using hv
  · rintro o w2 ⟨P, ho, hsm, hv, e2⟩
    refine nm ho hsm fun s' w' e' h' => rt1 (c := .slice) _ (e2.trans e') ?_
    rw [hv] at h'
    exact h'.at

theorem ref_Sub {w : TW} {s t : Sl} {x y : Nat} (hs : Dr w s x) (ht : Dr w t y) (hx : dz x ≤ 274877906944) (hle : y ≤ x) : Ct Pg F.zigguratref02_Sub [s.v, t.v] w none_ [.one .slice] fun (s' : Sl) w' => Dn w' w.w.heap.size s' (x - y) := by
  refine Ct.zigguratref02_Sub ?_
  unfold Sh.zigguratref02_Sub
  have ls := hs.len
  have lt := ht.len
  have hs := hs.here
  have ht := ht.here
  have hyx := dz_mono hle
  refine mk_0 (m := dz x) (by omega) (by omega) fun o w1 ho e1 => ?_
  refine j1 (fun (o : Sl) w2 => ∃ P, Ow w2 w.here.w.heap.size o P ∧ Sm B32 P ∧ vl B32 P = x - y ∧ Ext none_ w.here w2) ?_ ?_
  · refine lp3 (fun m (o : Sl) (c i : Int) w2 => ∃ (j d : Nat) (P : List Nat), c = d ∧ i = j ∧ m = dz x - j ∧ j ≤ dz x ∧ d ≤ 1 ∧ P.length = j ∧ Ow w2 w.here.w.heap.size o P ∧ Sm B32 P ∧ vl B32 P + vl B32 ((dg B32 y).take j) = vl B32 ((dg B32 x).take j) + B32 ^ j * d ∧ Ext none_ w.here w2) (dz x) ⟨0, 0, [], rfl, rfl, by omega, by omega, by omega, rfl, ho, Sm.nil _, rfl, e1⟩ ?_
    rintro m o c i w2 ⟨j, d, P, rfl, rfl, rfl, hj, hd, hP, ho, hsm, hv, e2⟩
    refine cnd_d (fun h => ?_) (fun h => ?_)
    · have ha := hs.lt j
      have hb := ht.lt j
      have ga := vl_take_getD B32 (dg B32 x) j
      have gb := vl_take_getD B32 (dg B32 y) j
      have hj1 : j < (dg B32 x).length := by rw [dz_eq]; omega
      refine (ht.ext e2).add0 rfl rfl (by rw [w64]; omega) ?_
      refine (hs.ext e2).ix rfl hj1 ?_
      refine j2 (fun (o' : Sl) (c' : Int) w4 => ∃ z d' : Nat, c' = d' ∧ d' ≤ 1 ∧ z < B32 ∧ z + (dg B32 y).getD j 0 + d = (dg B32 x).getD j 0 + B32 * d' ∧ Ow w4 w.here.w.heap.size o' (P ++ [z]) ∧ Ext none_ w.here w4) ?_ ?_
      · refine cnd_d (fun h1 => ?_) (fun h1 => ?_)
        · refine (hs.ext e2).ix rfl hj1 ?_
          generalize (dg B32 x).getD j 0 = a at *
          generalize (dg B32 y).getD j 0 = b at *
          refine bnd_wu' (y := a - (d + b)) (by omega) (by rw [w64]; omega) ?_
          exact push ho e2 rfl (by rw [w64]; omega) (by omega) fun o' w4 ho' e4 => ⟨a - (d + b), 0, rfl, by omega, by rw [b32]; omega, by omega, ho', e4⟩
        · refine (hs.ext e2).ix rfl hj1 ?_
          generalize (dg B32 x).getD j 0 = a at *
          generalize (dg B32 y).getD j 0 = b at *
          refine bnd_wu' (y := a + 4294967296) (by simp) (by rw [w64]; omega) (bnd_wu' (y := a + 4294967296 - (d + b)) (by omega) (by rw [w64]; omega) ?_)
          exact push ho e2 rfl (by rw [w64]; omega) (by omega) fun o' w4 ho' e4 => ⟨a + 4294967296 - (d + b), 1, rfl, by omega, by rw [b32]; omega, by rw [b32]; omega, ho', e4⟩
      rintro o' c' w4 ⟨z, d', rfl, hd', hz, he, ho', e4⟩
      refine bnd_wi (by omega) (by omega) ⟨dz x - (j + 1), by omega, j + 1, _, _, rfl, by omega, rfl, by omega, hd', by simp [hP], ho', hsm.snoc hz, ?_, e4⟩
      rw [vl_snoc, hP, Nat.pow_succ, ga, gb]
      generalize (dg B32 x).getD j 0 = a at *
      generalize (dg B32 y).getD j 0 = b at *
      have : B32 ^ j * z + B32 ^ j * b + B32 ^ j * d = B32 ^ j * a + B32 ^ j * B32 * d' := by
        have := congrArg (B32 ^ j * ·) he
        simp only [Nat.mul_add] at this
        rw [Nat.mul_assoc]
        exact this
      omega
    · have hj : j = dz x := by omega
      subst hj
      rw [vl_take_all (l := dg B32 x) (by rw [dz_eq]; exact Nat.le_refl _), vl_take_all (l := dg B32 y) (by rw [dz_eq]; exact hyx), vl_dg b2, vl_dg b2] at hv
      refine ⟨P, ho, hsm, ?_, e2⟩
      have h1 := vl_lt hsm
      rw [hP] at h1
      have : d = 0 := by
        rcases Nat.eq_zero_or_pos d with h | h
        · exact h
        · have : d = 1 := by omega
          subst this; omega
      subst this; omega
  · rintro o w2 ⟨P, ho, hsm, hv, e2⟩
    refine nm ho hsm fun s' w' e' h' => rt1 (c := .slice) _ (e2.trans e') ?_
    rw [hv] at h'
    exact h'.at

theorem ref_Cmp {w : TW} {s t : Sl} {x y : Nat} (hs : Dr w s x) (ht : Dr w t y) : Ct Pg F.zigguratref02_Cmp [s.v, t.v] w none_ [.one (.int .i64)] fun (r : Int) _ => r = cmpN x y := by
  refine Ct.zigguratref02_Cmp ?_
  unfold Sh.zigguratref02_Cmp
  have ls := hs.len
  have lt := ht.len
  have hle := Rd.le hs
  rw [dz_eq] at hle
  refine cnd_i (fun h0 => ?_) (fun h0 => ?_)
  · have h0 : dz x ≠ dz y := by intro h; simp [ls, lt, h] at h0
    refine cnd_d (fun h1 => ?_) (fun h1 => ?_)
    · refine rt1 (c := .int .i64) _ (Ext.refl _ _) ?_
      rw [cmpN, if_pos]
      exact Nat.lt_of_not_le fun h => by have := dz_mono h; omega
    · refine rt1 (c := .int .i64) _ (Ext.refl _ _) ?_
      have : ¬ x ≤ y := fun h => by have := dz_mono h; omega
      rw [cmpN, if_neg (by omega), if_neg (by omega)]
  · have h0 : dz x = dz y := by simp at h0; omega
    have hlx := dz_eq x
    have hly := dz_eq y
    refine bnd_wi (by omega) (by omega) ?_
    refine j0 (fun w' => Ext none_ w.here w' ∧ x = y) ?_ ?_
    · refine lp1 (fun k (i : Int) w' => ∃ j : Nat, i = j - 1 ∧ k = j ∧ j ≤ dz x ∧ vl B32 ((dg B32 x).drop j) = vl B32 ((dg B32 y).drop j) ∧ Ext none_ w.here w') (dz x) ⟨dz x, by omega, rfl, Nat.le_refl _, ?_, Ext.refl _ _⟩ ?_
      · rw [List.drop_of_length_le (by omega), List.drop_of_length_le (by omega)]
      · rintro k i w' ⟨j, rfl, rfl, hj, he, hx⟩
        refine cnd_d (fun h1 => ?_) (fun h1 => ?_)
        · have hs1 := (Rd.ext hs.here hx).drew
          have ht1 := (Rd.ext ht.here hx).drew
          have e1 : (k : Int) - 1 = (k - 1 : Nat) := by omega
          have hk : k - 1 < (dg B32 x).length := by omega
          have hk2 : k - 1 < (dg B32 y).length := by omega
          refine hs1.idx e1 hk (ht1.idx e1 hk2 ?_)
          refine cnd_d (fun h2 => ?_) (fun h2 => ?_)
          · refine rt1 (c := .int .i64) _ hx.drew ?_
            have := vl_lt_of_top (dg_sm b2 x) hk hk2 (by omega) (by rw [show k - 1 + 1 = k by omega, he]; exact Nat.le_refl _)
            rw [vl_dg b2, vl_dg b2] at this
            rw [cmpN, if_pos this]
          · refine hs1.drew.idx e1 hk (ht1.drew.idx e1 hk2 ?_)
            refine cnd_d (fun h3 => ?_) (fun h3 => ?_)
            · refine rt1 (c := .int .i64) _ hx.drew.drew ?_
              have := vl_lt_of_top (dg_sm b2 y) hk2 hk (by omega) (by rw [show k - 1 + 1 = k by omega, he]; exact Nat.le_refl _)
              rw [vl_dg b2, vl_dg b2] at this
              rw [cmpN, if_neg (by omega), if_neg (by omega)]
            · refine bnd_wi (by omega) (by omega) ⟨k - 1, by omega, k - 1, by omega, rfl, by omega, ?_, hx.drew.drew⟩
              rw [List.drop_eq_getElem_cons hk, List.drop_eq_getElem_cons hk2, show k - 1 + 1 = k by omega, vl_cons, vl_cons, he]
              omega
        · refine ⟨hx, ?_⟩
          have : k = 0 := by omega
          subst this
          rw [List.drop_zero, List.drop_zero, vl_dg b2, vl_dg b2] at he
          exact he
    · rintro w' ⟨hx, he⟩
      refine rt1 (c := .int .i64) _ hx ?_
      rw [cmpN, if_neg (by omega), if_pos he]

theorem ref_Small {w : TW} {y : Nat} (hy : y < W64) : Ct Pg F.zigguratref02_Small [.int .u64 y] w none_ [.one .slice] fun (s' : Sl) w' => Dn w' w.w.heap.size s' y := by
  refine Ct.zigguratref02_Small ?_
  unfold Sh.zigguratref02_Small
  refine nw_u64 rfl hy fun b w1 h1 e1 => ?_
  refine c1 (ref_From (s := ⟨some ⟨b, 0, none⟩, 1, 1⟩) (x := y) ⟨_, h1.rd, vl_one⟩ (by show 1 ≤ _; omega)) ?_
  intro s' w2 e2 h2
  exact rt1 (c := .slice) _ (e1.trans e2) (h2.less e1.size).at
end Go.Proofs.Ythhohfgpaihngaa.Zg
