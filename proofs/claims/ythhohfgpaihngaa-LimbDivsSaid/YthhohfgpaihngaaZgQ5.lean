/- A part of the proofs of this seat's laws: words, lemmas or contracts of its functions. -/
import Derived.Test.YthhohfgpaihngaaZgQ4
import Derived.Test.YthhohfgpaihngaaZgK7
set_option linter.unusedVariables false
set_option linter.unusedSimpArgs false
set_option linter.unnecessarySimpa false
namespace Go.Proofs.Ythhohfgpaihngaa.Zg
open Go.RowKit

theorem dg_getD {b : Nat} (hb : 2 ≤ b) (x : Nat) : ∀ k, (dg b x).getD k 0 = x / b ^ k % b := by
  intro k
  induction k generalizing x with
  | zero =>
    rcases Nat.eq_zero_or_pos x with h | h
    · subst h; simp [dg_zero]
    · rw [dg_pos hb h]; simp
  | succ k ih =>
    rcases Nat.eq_zero_or_pos x with h | h
    · subst h; simp [dg_zero]
    · rw [dg_pos hb h]
      have := ih (x / b)
      rw [Nat.div_div_eq_div_mul, Nat.mul_comm b, ← Nat.pow_succ] at this
      simpa using this

theorem ref_bit {w : TW} {s : Sl} {x i : Nat} (hs : Dr w s x) (hi : i < 32 * dz x) (hx : dz x ≤ 274877906944) : Ct Pg F.zigguratref02_bit [s.v, .int .i64 i] w none_ [.one (.int .u64)] fun (r : Int) _ => r = (x / 2 ^ i % 2 : Nat) := by
  refine Ct.zigguratref02_bit ?_
  unfold Sh.zigguratref02_bit
  refine divNi (x := i) (y := 32) rfl rfl (by omega) (by decide) ?_
  refine (Rd.here hs).ix rfl (by rw [dz_eq]; omega) ?_
  have hv := Dr.lt hs (i / 32)
  rw [dg_getD b2] at hv ⊢
  refine remN (x := i) (y := 32) rfl rfl (by decide) (bnd_wu' (y := i % 32) rfl (by rw [w64]; omega) (shrN (x := x / B32 ^ (i / 32) % B32) (n := i % 32) rfl rfl (by show _ ≤ 64; omega) ?_))
  have hlt : x / B32 ^ (i / 32) % B32 / 2 ^ (i % 32) < W64 := Nat.lt_of_le_of_lt (Nat.div_le_self _ _) (Nat.lt_trans hv (by decide))
  refine bnd_low (x := x / B32 ^ (i / 32) % B32 / 2 ^ (i % 32)) (k := 1) rfl (by decide) hlt (by decide) ?_
  refine rt1 (c := .int .u64) _ (Ext.refl _ _) ?_
  congr 1
  rw [two_split32 i, ← Nat.div_div_eq_div_mul]
  generalize x / B32 ^ (i / 32) = y
  obtain ⟨k, hk⟩ : ∃ k, k = i % 32 := ⟨_, rfl⟩
  have hk32 : k < 32 := by omega
  rw [← hk, Nat.pow_one]
  have hB : B32 = 2 ^ k * (2 * 2 ^ (31 - k)) := by
    rw [← Nat.pow_succ', ← Nat.pow_add, show B32 = 2 ^ 32 by decide]; congr 1; omega
  rw [hB, Nat.mod_mul_right_div_self, Nat.mod_mul_right_mod]

theorem ref_Bits {w : TW} {s : Sl} {x : Nat} (hs : Dr w s x) (hx : dz x ≤ 274877906944) : Ct Pg F.zigguratref02_Bits [s.v] w none_ [.one (.int .i64)] fun (r : Int) _ => ∃ n : Nat, r = n ∧ x < 2 ^ n ∧ n ≤ 32 * dz x := by
  refine Ct.zigguratref02_Bits ?_
  unfold Sh.zigguratref02_Bits
  have ls := hs.len
  refine cnd_i (fun h0 => ?_) (fun h0 => ?_)
  · have : dz x = 0 := by simp at h0; omega
    refine rt1 (c := .int .i64) _ (Ext.refl _ _) ⟨0, rfl, ?_, by omega⟩
    rw [dz_zero] at this
    subst this
    decide
  have h0 : dz x ≠ 0 := fun h => by simp [ls, h] at h0
  have h0 : 0 < dz x := by omega
  refine bnd_wi (by omega) (by omega) (bnd_wi (by omega) (by omega) (bnd_wi (by omega) (by omega) ?_))
  refine (Rd.here hs).ix (j := dz x - 1) (by omega) (by rw [dz_eq]; omega) ?_
  have hv := Dr.lt hs (dz x - 1)
  have hgo := vl_take_getD B32 (dg B32 x) (dz x - 1)
  rw [show dz x - 1 + 1 = dz x by omega, vl_take_all (l := dg B32 x) (by rw [dz_eq]; exact Nat.le_refl _), vl_dg b2] at hgo
  have hlow := vl_lt ((dg_sm b2 x).take (dz x - 1))
  rw [List.length_take, dz_eq, Nat.min_eq_left (by omega)] at hlow
  generalize (dg B32 x).getD (dz x - 1) 0 = v at *
  generalize vl B32 ((dg B32 x).take (dz x - 1)) = low at *
  have hB : B32 ^ (dz x - 1) = 2 ^ (32 * (dz x - 1)) := by rw [Nat.pow_mul]
  refine j1 (fun (n : Int) w' => w' = w.here ∧ ∃ k : Nat, n = (32 * (dz x - 1) + k : Nat) ∧ v < 2 ^ k ∧ k ≤ 32) ?_ ?_
  · refine lp2 (fun m (n y : Int) w' => w' = w.here ∧ ∃ k u : Nat, n = (32 * (dz x - 1) + k : Nat) ∧ y = u ∧ m = u ∧ u = v / 2 ^ k ∧ k ≤ 32) v ⟨rfl, 0, v, by omega, rfl, rfl, by simp, by omega⟩ ?_
    rintro m n y w' ⟨rfl, k, u, rfl, rfl, rfl, hu, hk⟩
    refine cnd_d (fun h => ?_) (fun h => ?_)
    · have hk2 : k < 32 := by
        rcases Nat.lt_or_ge k 32 with h1 | h1
        · exact h1
        · have : k = 32 := by omega
          subst this
          rw [hu, Nat.div_eq_of_lt (by omega)] at h
          omega
      have hmW : m < W64 := by rw [hu]; exact Nat.lt_of_le_of_lt (Nat.div_le_self _ _) (Nat.lt_trans hv (by decide))
      refine bnd_wi (by omega) (by omega) (divNu (x := m) (y := 2) rfl rfl hmW (by decide) ⟨m / 2, by omega, rfl, k + 1, m / 2, by omega, rfl, rfl, ?_, by omega⟩)
      rw [hu, Nat.div_div_eq_div_mul, ← Nat.pow_succ]
    · refine ⟨rfl, k, rfl, ?_, hk⟩
      have : m = 0 := by omega
      rw [this] at hu
      have hp := Nat.two_pow_pos k
      exact Nat.lt_of_div_eq_zero hp hu.symm
  rintro n w' ⟨rfl, k, rfl, hk, hk2⟩
  refine rt1 (c := .int .i64) _ (Ext.refl _ _) ⟨_, rfl, ?_, by omega⟩
  rw [hB] at hlow hgo
  rw [Nat.pow_add]
  have := Nat.mul_le_mul_left (2 ^ (32 * (dz x - 1))) hk
  rw [Nat.mul_succ] at this
  omega
end Go.Proofs.Ythhohfgpaihngaa.Zg
