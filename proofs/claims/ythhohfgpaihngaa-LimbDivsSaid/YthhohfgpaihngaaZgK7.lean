/- A part of the proofs of this seat's laws: words, lemmas or contracts of its functions. -/
import Derived.Test.YthhohfgpaihngaaZgK6
set_option linter.unusedVariables false
set_option linter.unusedSimpArgs false
set_option linter.unnecessarySimpa false
namespace Go.Proofs.Ythhohfgpaihngaa.Zg

/-- How many bits a number has. -/
def bl (x : Nat) : Nat := (dg 2 x).length
theorem bl_lt (x : Nat) : x < 2 ^ bl x := dg_lt_pow (Nat.le_refl _) x
theorem bl_le {x : Nat} (h : 0 < x) : 2 ^ (bl x - 1) ≤ x := pow_le_of_dg (Nat.le_refl _) h
theorem bl_pos {x : Nat} (h : 0 < x) : 0 < bl x := by
  have := (not_congr (dg_length_zero (b := 2) (n := x) (Nat.le_refl _))).2 (by omega)
  unfold bl; omega
theorem bl_zero : bl 0 = 0 := (dg_length_zero (b := 2) (Nat.le_refl _)).2 rfl
theorem bl_of {x k : Nat} (h1 : 2 ^ k ≤ x) (h2 : x < 2 ^ (k + 1)) : bl x = k + 1 := by
  have h3 : bl x ≤ k + 1 := dg_length_le (Nat.le_refl _) h2
  rcases Nat.lt_or_ge k (bl x) with h | h
  · omega
  · have := Nat.lt_of_lt_of_le (bl_lt x) (Nat.pow_le_pow_right (n := 2) (by decide) h); omega
theorem bl_pow {x k : Nat} (h : x < 2 ^ k) : bl x ≤ k := dg_length_le (Nat.le_refl _) h
theorem bl_shift {x k : Nat} (h : 2 ^ k ≤ x) : bl x = bl (x / 2 ^ k) + k := by
  have h0 : 0 < x / 2 ^ k := Nat.div_pos h (Nat.two_pow_pos k)
  have h1 := bl_le h0
  have h2 := bl_lt (x / 2 ^ k)
  have h3 := bl_pos h0
  rw [show bl (x / 2 ^ k) + k = (bl (x / 2 ^ k) - 1 + k) + 1 by omega]
  refine bl_of ?_ ?_
  · rw [Nat.pow_add]
    exact Nat.le_trans (Nat.mul_le_mul_right _ h1) (Nat.div_mul_le_self x (2 ^ k))
  · rw [show bl (x / 2 ^ k) - 1 + k + 1 = bl (x / 2 ^ k) + k by omega, Nat.pow_add]
    rw [Nat.div_lt_iff_lt_mul (Nat.two_pow_pos k)] at h2
    exact h2

def tabOk (t : ByteArray) : Bool := Nat.beq t.size 256 && (List.range 256).all fun i => match t.data[i]? with
  | some v => if i = 0 then Nat.beq v.toNat 0 else Nat.ble 1 v.toNat && Nat.ble (2 ^ (v.toNat - 1)) i && Nat.blt i (2 ^ v.toNat)
  | none => false
theorem tab_bl {t : ByteArray} (ht : tabOk t = true) {i : Nat} (hi : i < 256) : ∃ h : i < t.size, (t[i]'h).toNat = bl i := by
  simp only [tabOk, Bool.and_eq_true, List.all_eq_true, List.mem_range] at ht
  have h1 : t.size = 256 := Nat.eq_of_beq_eq_true ht.1
  have h2 := ht.2 i hi
  have hs : i < t.size := by omega
  refine ⟨hs, ?_⟩
  have hs' : i < t.data.size := hs
  rw [Array.getElem?_eq_getElem hs'] at h2
  simp only at h2
  show (t.data[i]'hs').toNat = _
  split at h2
  · subst i; rw [Nat.eq_of_beq_eq_true h2, bl_zero]
  · simp only [Bool.and_eq_true, Nat.ble_eq, Nat.blt_eq] at h2
    obtain ⟨⟨h3, h4⟩, h5⟩ := h2
    rw [show (t.data[i]'hs').toNat = ((t.data[i]'hs').toNat - 1) + 1 by omega] at h5 ⊢
    exact (bl_of h4 h5).symm

theorem bnd_eq {α : Type} {x y : α} {K : α → Prop} (h : x = y) (hK : K y) : bnd x K := by subst h; exact hK
theorem ixs_of {s : ByteArray} {i : Int} {j v : Nat} {K : Int → Prop} (hi : i = j) (h : ∃ h : j < s.size, (s[j]'h).toNat = v) (hK : K v) : ixs s i K := by
  subst hi
  obtain ⟨h1, h2⟩ := h
  refine ⟨⟨by omega, h1⟩, ?_⟩
  simp only [Int.toNat_natCast]
  rw [h2]
  exact hK

theorem bits_Len64 {w : TW} {x : Nat} (hx : x < W64) : Ct Pg F.bits_Len64 [.int .u64 x] w none_ [.one (.int .i64)] fun (r : Int) _ => r = bl x := by
  refine Ct.bits_Len64 ?_
  unfold Sh.bits_Len64
  rw [w_pow] at hx
  refine j2 (fun (x1 n1 : Int) w' => w' = w.here ∧ ∃ a m : Nat, x1 = a ∧ n1 = m ∧ a < 2 ^ 32 ∧ m ≤ 32 ∧ bl x = bl a + m) ?_ ?_
  · refine cnd_d (fun h => ?_) (fun h => ?_)
    · exact shrN (x := x) (n := 32) rfl rfl (by decide) ⟨rfl, x / 2 ^ 32, 32, rfl, rfl, by omega, by omega, bl_shift (by omega)⟩
    · exact ⟨rfl, x, 0, rfl, rfl, by omega, by omega, rfl⟩
  rintro x1 n1 w' ⟨rfl, a, m, rfl, rfl, ha, hm, hb⟩
  refine j2 (fun (x1 n1 : Int) w' => w' = w.here ∧ ∃ a m : Nat, x1 = a ∧ n1 = m ∧ a < 2 ^ 16 ∧ m ≤ 48 ∧ bl x = bl a + m) ?_ ?_
  · refine cnd_d (fun h => ?_) (fun h => ?_)
    · exact shrN (x := a) (n := 16) rfl rfl (by decide) (bnd_wi (by omega) (by omega) ⟨rfl, a / 2 ^ 16, m + 16, rfl, rfl, by omega, by omega, by rw [hb, bl_shift (k := 16) (by omega)]; omega⟩)
    · exact ⟨rfl, a, m, rfl, rfl, by omega, by omega, hb⟩
  rintro x1 n1 w' ⟨rfl, a, m, rfl, rfl, ha, hm, hb⟩
  refine j2 (fun (x1 n1 : Int) w' => w' = w.here ∧ ∃ a m : Nat, x1 = a ∧ n1 = m ∧ a < 2 ^ 8 ∧ m ≤ 56 ∧ bl x = bl a + m) ?_ ?_
  · refine cnd_d (fun h => ?_) (fun h => ?_)
    · exact shrN (x := a) (n := 8) rfl rfl (by decide) (bnd_wi (by omega) (by omega) ⟨rfl, a / 2 ^ 8, m + 8, rfl, rfl, by omega, by omega, by rw [hb, bl_shift (k := 8) (by omega)]; omega⟩)
    · exact ⟨rfl, a, m, rfl, rfl, by omega, by omega, hb⟩
  rintro x1 n1 w' ⟨rfl, a, m, rfl, rfl, ha, hm, hb⟩
  have hw : IntKind.u8.wrap (a : Int) = a := by simp [IntKind.wrap, IntKind.signed, IntKind.bits]; omega
  have := bl_pow ha
  refine bnd_eq hw (ixs_of rfl (tab_bl (by kernel_rfl) (show a < 256 from ha)) (bnd_wi (by omega) (by omega) (bnd_wi (by omega) (by omega) ?_)))
  exact rt1 (c := .int .i64) _ (Ext.refl _ _) (by omega)

theorem bits_LeadingZeros64 {w : TW} {x : Nat} (hx : x < W64) : Ct Pg F.bits_LeadingZeros64 [.int .u64 x] w none_ [.one (.int .i64)] fun (r : Int) _ => r = (64 - bl x : Nat) := by
  refine Ct.bits_LeadingZeros64 ?_
  unfold Sh.bits_LeadingZeros64
  refine c1 (bits_Len64 hx) ?_
  rintro r w' e rfl
  have := bl_pow (k := 64) hx
  exact bnd_wi (by omega) (by omega) (rt1 (c := .int .i64) _ e (by omega))
end Go.Proofs.Ythhohfgpaihngaa.Zg
