/- A part of the proofs of this seat's laws: words, lemmas or contracts of its functions. -/
import Derived.Test.YthhohfgpaihngaaZgT3
set_option linter.unusedVariables false
set_option linter.unusedSimpArgs false
set_option linter.unnecessarySimpa false
namespace Go.Proofs.Ythhohfgpaihngaa.Zg
open Go.RowKit

theorem sz_joined {r : Nat} (hr : r ≤ 40) : ∀ ys : List Nat, (∀ y ∈ ys, sz y ≤ 12) → sz (vl (W64 ^ r) ys) ≤ 53 * ys.length
  | [], _ => by simp [vl, sz0]
  | y :: ys, h => by
    have ih := sz_joined hr ys fun z hz => h z (List.mem_cons_of_mem _ hz)
    have h1 := h y (List.mem_cons_self ..)
    have h2 : sz (W64 ^ r) ≤ r + 1 := sz_pow (Nat.pow_lt_pow_right (by decide) (Nat.lt_succ_self r))
    have h3 := sz_mul (W64 ^ r) (vl (W64 ^ r) ys)
    have h4 := sz_add y (W64 ^ r * vl (W64 ^ r) ys)
    rw [vl_cons, List.length_cons]
    omega

theorem law02_LimbJoins {w : TW} {a : Sl} {k : Int} (_ : -9223372036854775808 ≤ k ∧ k ≤ 9223372036854775807) (ha : ArgL w a) : Ct Pg F.zigguratlaw02_LimbJoins [.int .i64 k, a.v] w none_ [.one .bool] fun (r : Bool) _ => r = true := by
  obtain ⟨la, ha⟩ := ha
  refine Ct.zigguratlaw02_LimbJoins ?_
  unfold Sh.zigguratlaw02_LimbJoins
  refine c1 (keep_Cuts (k := 8) (n := 12) ha.here (by decide)) ?_
  intro s w1 e1 hs
  have hlen : ((la.take 8).map (List.take 12)).length ≤ 8 := by simp; omega
  have hmem : ∀ l ∈ (la.take 8).map (List.take 12), l.length ≤ 12 := fun l hl => by
    obtain ⟨m, _, rfl⟩ := List.mem_map.1 hl
    simp; omega
  generalize (la.take 8).map (List.take 12) = ls at *
  have hsm : ∀ l ∈ ls, Sm W64 l := fun l hl => by
    obtain ⟨ss, h1, h2, h3⟩ := hs
    obtain ⟨i, hi, rfl⟩ := List.getElem_of_mem hl
    have := (h3 i ss[i] (by simp [h2, hi])).sm
    simpa [hi] using this
  have hszs : ∀ y ∈ ls.map (vl W64), sz y ≤ 12 := fun y hy => by
    obtain ⟨l, hl, rfl⟩ := List.mem_map.1 hy
    exact Nat.le_trans (sz_vl (hsm l hl)) (hmem l hl)
  have hszd : ∀ t, sz ((ls.map (vl W64)).getD t 0) ≤ 12 := fun t => by
    rcases Nat.lt_or_ge t (ls.map (vl W64)).length with h | h
    · have h1 : (ls.map (vl W64)).getD t 0 = (ls.map (vl W64))[t] := by rw [List.getD_eq_getElem?_getD, List.getElem?_eq_getElem h]; rfl
      rw [h1]; exact hszs _ (List.getElem_mem h)
    · rw [getD_past h, sz0]; omega
  have hl := hs.len
  refine j1 (fun (k : Int) w' => k ≤ 40 ∧ Ext none_ w1 w') ?_ ?_
  · refine cnd_d (fun h => ?_) (fun h => ⟨by omega, Ext.refl _ _⟩)
    refine c1 (keep_Within (by decide) (by decide)) ?_
    rintro r w3 e3 ⟨hr0, hr1⟩
    exact ⟨by omega, e3⟩
  rintro k w3 ⟨hk, f3⟩
  obtain ⟨N, hN⟩ : ∃ N, N = min k.toNat 40 := ⟨_, rfl⟩
  have hN1 : N ≤ 40 := by omega
  have hN2 : min k.toNat 16384 = N := by omega
  have hpw : 2 ^ (64 * N) = W64 ^ N := by rw [w_pow, Nat.pow_mul]
  refine bnd_wi (by omega) (by omega) ?_
  obtain ⟨xs, hxs⟩ : ∃ xs, ls.map (vl W64) = xs := ⟨_, rfl⟩
  have hxl : xs.length = ls.length := by rw [← hxs]; simp
  rw [hxs] at hszs hszd
  have hd : ∀ j, sz (vl (W64 ^ N) (xs.drop j)) ≤ 424 := fun j => by
    refine Nat.le_trans (sz_joined hN1 _ fun y hy => hszs y (List.mem_of_mem_drop hy)) ?_
    simp; omega
  refine j1 (fun (o : Sl) w' => Dn w' w1.w.heap.size o (vl (W64 ^ N) xs) ∧ Ext none_ w1 w') ?_ ?_
  · refine lp2 (fun m (o : Sl) (i : Int) w' => ∃ j : Nat, i = j - 1 ∧ m = j ∧ j ≤ ls.length ∧ Dn w' w1.w.heap.size o (vl (W64 ^ N) (xs.drop j)) ∧ Ext none_ w1 w') ls.length ⟨ls.length, by omega, rfl, Nat.le_refl _, by rw [List.drop_of_length_le (by omega)]; exact Dn.nil _ _, f3⟩ ?_
    rintro m o i w' ⟨j, rfl, rfl, hj, ho, f⟩
    refine cnd_d (fun h => ?_) (fun h => ?_)
    · obtain ⟨j, rfl⟩ : ∃ j, m = j + 1 := ⟨m - 1, by omega⟩
      refine hs.idx f.drew (j := j) (by omega) (by omega) fun a1 t ka ht => ?_
      refine c1 (law02_count (by decide)) ?_
      rintro r w5 e5 rfl
      rw [show (40 : Int).toNat = 40 by rfl, ← hN]
      have f5 := f.drew.trans e5
      refine hld1 (ka _ f5) (bnd_wi (by omega) (by omega) ?_)
      have hdj := hd (j + 1)
      have ho : Dn w5 w1.w.heap.size o _ := Ow.ext (Ow.drew ho) e5
      refine c1 (ref_Shl (s := o) (n := 64 * N) ho.dr (by have := dz_of_sz hdj; omega) (by omega)) ?_
      intro s1 w6 e6 h1
      have f6 := f5.trans e6
      refine hld1 (ka _ f6) ?_
      refine fr ht f6 (by
        have hm : ls.getD j [] ∈ ls := by simp [show j < ls.length by omega]
        have := hmem _ hm
        omega) fun s2 w7 e7 f7 h2 => ?_
      have hxj : vl W64 (ls.getD j []) = xs.getD j 0 := by rw [← hxs, getD_map_vl]
      rw [hxj] at h2
      have hdj2 := hd j
      have hdrop : xs.drop j = xs.getD j 0 :: xs.drop (j + 1) := by
        have hjx : j < xs.length := by omega
        rw [List.drop_eq_getElem_cons hjx, show xs.getD j 0 = xs[j] by simp [hjx]]
      have h3 := sz_mul (vl (W64 ^ N) (xs.drop (j + 1))) (2 ^ (64 * N))
      have h4 : sz (2 ^ (64 * N)) ≤ 41 := sz_two (by omega)
      have h5 := hszd j
      refine c1 (ref_Add (h1.ext e7).dr h2.dr (by have := dz_of_sz h3; omega) (by have := dz_of_sz h5; omega)) ?_
      intro s3 w8 e8 h6
      refine bnd_wi (by omega) (by omega) ⟨j, by omega, j, by omega, rfl, by omega, ?_, f7.trans e8⟩
      have h7 : vl (W64 ^ N) (xs.drop (j + 1)) * 2 ^ (64 * N) + xs.getD j 0 = vl (W64 ^ N) (xs.drop j) := by rw [hdrop, vl_cons, Nat.add_comm, Nat.mul_comm, hpw]
      rw [h7] at h6
      exact h6.less f7.size
    · have : m = 0 := by omega
      subst this
      rw [List.drop_zero] at ho
      exact ⟨ho, f⟩
  rintro o w9 ⟨ho, f9⟩
  refine j1 (fun (b : Bool) w' => b = true ∧ Ext none_ w1 w') ?_ ?_
  · refine c1 (keep_Nats (hs.ext f9) (by omega)) ?_
    intro s4 w10 e10 h4
    have h4 := h4.rs
    rw [hxs] at h4
    refine c1 (limb_Join (k := k) h4 (by omega) fun t => by have := hszd t; omega) ?_
    intro s5 w11 e11 h5
    rw [hN2] at h5
    have := hd 0
    rw [List.drop_zero] at this
    refine sm ((ho.ext e10).ext e11).dr h5 (by have := dz_of_sz this; omega) rfl fun w12 e12 => cnd_t rfl (wk fun w13 e13 => ⟨rfl, (((f9.trans e10).trans e11).trans e12).trans e13⟩)
  rintro b w30 ⟨rfl, f30⟩
  exact rt1 (c := .bool) _ (e1.trans f30) rfl
end Go.Proofs.Ythhohfgpaihngaa.Zg
