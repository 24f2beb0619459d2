/- A part of the proofs of this seat's laws: words, lemmas or contracts of its functions. -/
import Derived.Test.YthhohfgpaihngaaZgY
import Derived.Test.YthhohfgpaihngaaZgK2
import Derived.Test.YthhohfgpaihngaaZgPbits
set_option linter.unusedVariables false
set_option linter.unusedSimpArgs false
set_option linter.unnecessarySimpa false
namespace Go.Proofs.Ythhohfgpaihngaa.Zg

theorem mul_hi (M x y : Nat) : x * y = M * M * (x / M * (y / M) + (x / M * (y % M) + x % M * (y % M) / M) / M + ((x / M * (y % M) + x % M * (y % M) / M) % M + x % M * (y / M)) / M) + (M * (((x / M * (y % M) + x % M * (y % M) / M) % M + x % M * (y / M)) % M) + x % M * (y % M) % M) := by
  have hx := Nat.div_add_mod x M
  have hy := Nat.div_add_mod y M
  have h4 := Nat.div_add_mod (x % M * (y % M)) M
  have h7 := Nat.div_add_mod (x / M * (y % M) + x % M * (y % M) / M) M
  have h11 := Nat.div_add_mod ((x / M * (y % M) + x % M * (y % M) / M) % M + x % M * (y / M)) M
  generalize x / M = a at *
  generalize x % M = b at *
  generalize y / M = c at *
  generalize y % M = d at *
  generalize b * d / M = n6 at *
  generalize b * d % M = r0 at *
  generalize (a * d + n6) / M = n9 at *
  generalize (a * d + n6) % M = n8 at *
  generalize (n8 + b * c) / M = n14 at *
  generalize (n8 + b * c) % M = r1 at *
  subst hx hy
  grind

theorem bits_Mul64 {w : TW} {x y : Nat} (hx : x < W64) (hy : y < W64) : Ct Pg F.bits_Mul64 [.int .u64 x, .int .u64 y] w none_ [.one (.int .u64), .one (.int .u64)] fun (hi lo : Int) _ => hi = (x * y / W64 : Nat) ∧ lo = (x * y % W64 : Nat) := by
  refine Ct.bits_Mul64 ?_
  unfold Sh.bits_Mul64
  have e := mul_hi 4294967296 x y
  have e32 : (2 : Nat) ^ 32 = 4294967296 := by decide
  have hW : W64 = 4294967296 * 4294967296 := by decide
  have h1 : x / 4294967296 < 4294967296 := Nat.div_lt_of_lt_mul (by rwa [← hW])
  have h3 : y / 4294967296 < 4294967296 := Nat.div_lt_of_lt_mul (by rwa [← hW])
  have h0 : x % 4294967296 < 4294967296 := Nat.mod_lt _ (by decide)
  have h2 : y % 4294967296 < 4294967296 := Nat.mod_lt _ (by decide)
  have hxy : x * y < W64 * W64 := Nat.mul_lt_mul'' hx hy
  refine bnd_low (x := x) (k := 32) rfl (by decide) hx (by decide) ?_
  refine shrN (x := x) (n := 32) rfl rfl (by decide) ?_
  refine bnd_low (x := y) (k := 32) rfl (by decide) hy (by decide) ?_
  refine shrN (x := y) (n := 32) rfl rfl (by decide) ?_
  rw [e32]
  generalize x / 4294967296 = a at *
  generalize x % 4294967296 = b at *
  generalize y / 4294967296 = c at *
  generalize y % 4294967296 = d at *
  have hbd : b * d ≤ 4294967295 * 4294967295 := Nat.mul_le_mul (by omega) (by omega)
  have had : a * d ≤ 4294967295 * 4294967295 := Nat.mul_le_mul (by omega) (by omega)
  have hbc : b * c ≤ 4294967295 * 4294967295 := Nat.mul_le_mul (by omega) (by omega)
  have hac : a * c ≤ 4294967295 * 4294967295 := Nat.mul_le_mul (by omega) (by omega)
  refine bnd_wu' (y := b * d) (by simp) (by rw [w64]; omega) ?_
  refine bnd_wu' (y := a * d) (by simp) (by rw [w64]; omega) ?_
  refine shrN (x := b * d) (n := 32) rfl rfl (by decide) ?_
  rw [e32]
  refine bnd_wu' (y := a * d + b * d / 4294967296) (by simp) (by rw [w64]; omega) ?_
  refine bnd_low (x := a * d + b * d / 4294967296) (k := 32) rfl (by decide) (by rw [w64]; omega) (by decide) ?_
  refine shrN (x := a * d + b * d / 4294967296) (n := 32) rfl rfl (by decide) ?_
  rw [e32]
  refine bnd_wu' (y := b * c) (by simp) (by rw [w64]; omega) ?_
  refine bnd_wu' (y := (a * d + b * d / 4294967296) % 4294967296 + b * c) (by simp) (by rw [w64]; omega) ?_
  refine bnd_wu' (y := a * c) (by simp) (by rw [w64]; omega) ?_
  refine bnd_wu' (y := a * c + (a * d + b * d / 4294967296) / 4294967296) (by simp) (by rw [w64]; omega) ?_
  refine shrN (x := (a * d + b * d / 4294967296) % 4294967296 + b * c) (n := 32) rfl rfl (by decide) ?_
  rw [e32]
  have hH : a * c + (a * d + b * d / 4294967296) / 4294967296 + ((a * d + b * d / 4294967296) % 4294967296 + b * c) / 4294967296 = x * y / W64 := by
    rw [e]
    generalize a * c + (a * d + b * d / 4294967296) / 4294967296 + ((a * d + b * d / 4294967296) % 4294967296 + b * c) / 4294967296 = H
    rw [hW]
    omega
  refine bnd_wu' (y := x * y / W64) (by rw [← hH]; simp) (Nat.div_lt_of_lt_mul hxy) ?_
  refine bnd_wu (y := x * y) (by simp) ?_
  exact rt2 (c := .int .u64) (d := .int .u64) _ _ (Ext.refl _ _) ⟨rfl, rfl⟩
end Go.Proofs.Ythhohfgpaihngaa.Zg
