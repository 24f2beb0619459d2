/- A part of the proofs of this seat's laws: words, lemmas or contracts of its functions. -/
import Derived.Test.YthhohfgpaihngaaZgK7
set_option linter.unusedVariables false
set_option linter.unusedSimpArgs false
set_option linter.unnecessarySimpa false
namespace Go.Proofs.Ythhohfgpaihngaa.Zg

/-! ### Two digits by one (Knuth's D), the plain laws. M: the half base. -/
section
variable {M v1 v0 u d q r : Nat}
theorem kn_dec (hq : q * v1 + r = u) (hQ : u * M + d < (v1 * M + v0) * M) (hc : M ≤ q ∨ M * r + d < q * v0) : (u * M + d) / (v1 * M + v0) < q := by
  have hV : 0 < v1 * M + v0 := by
    rcases Nat.eq_zero_or_pos (v1 * M + v0) with h | h
    · rw [h, Nat.zero_mul] at hQ; omega
    · exact h
  rcases hc with h | h
  · exact Nat.lt_of_lt_of_le (Nat.div_lt_of_lt_mul hQ) h
  · refine Nat.div_lt_of_lt_mul ?_
    have e1 : u * M = q * v1 * M + M * r := by rw [← hq]; grind
    have e2 : (v1 * M + v0) * q = q * v1 * M + q * v0 := by grind
    omega
theorem kn_stop1 (hV : 0 < v1 * M + v0) (hq : q * v1 + r = u) (h : q * v0 ≤ M * r + d) : q ≤ (u * M + d) / (v1 * M + v0) := by
  rw [Nat.le_div_iff_mul_le hV]
  have e1 : u * M = q * v1 * M + M * r := by rw [← hq]; grind
  have e2 : q * (v1 * M + v0) = q * v1 * M + q * v0 := by grind
  omega
theorem kn_stop2 (hV : 0 < v1 * M + v0) (hv0 : v0 < M) (hq : q * v1 + r = u) (hr : M ≤ r) (hqM : q ≤ M) : q ≤ (u * M + d) / (v1 * M + v0) := by
  refine kn_stop1 hV hq ?_
  have h1 : q * v0 ≤ M * v0 := Nat.mul_le_mul_right _ hqM
  have h2 : M * v0 ≤ M * r := Nat.mul_le_mul_left _ (by omega)
  omega
theorem kn_init (hd : d < M) (hv1 : 0 < v1) : (u * M + d) / (v1 * M + v0) ≤ u / v1 := by
  have hM : 0 < M := by omega
  rw [Nat.le_div_iff_mul_le hv1]
  have h1 := Nat.div_mul_le_self (u * M + d) (v1 * M + v0)
  generalize (u * M + d) / (v1 * M + v0) = Q at *
  have h2 : Q * (v1 * M + v0) = Q * v1 * M + Q * v0 := by grind
  have h3 : Q * v1 * M < (u + 1) * M := by rw [Nat.add_mul]; omega
  have := Nat.lt_of_mul_lt_mul_right h3
  omega
theorem kn_top (hv0 : v0 < M) (hM : M ≤ 2 * v1) (hu : u < v1 * M + v0) : u / v1 ≤ M + 1 := by
  have h : u < v1 * (M + 2) := by rw [Nat.mul_add]; omega
  have := Nat.div_lt_of_lt_mul h
  omega
end

theorem bnd_wu_sub {x y : Int} {a b : Nat} {K : Int → Prop} (hx : x = a) (hy : y = b) (hb : b ≤ W64) (h : K ((a + (W64 - b)) % W64 : Nat)) : bnd (wu (x - y)) K := by
  subst hx hy
  have : wu ((a : Int) - b) = ((a + (W64 - b)) % W64 : Nat) := by
    rw [← wu_nat]
    simp only [wu, IntKind.wrap, IntKind.signed, IntKind.bits, w64]
    rw [w64] at hb
    simp
    omega
  unfold bnd
  rw [this]; exact h

theorem sub_mod {X d QV R : Nat} (h : X + d = QV + R) (hR : R < W64) : ((X % W64 + d) % W64 + (W64 - QV % W64)) % W64 = R := by
  rw [w64] at *
  omega

theorem kn_all {u L d1 d0 V Q1 Q0 R1 R0 : Nat} (h1 : 4294967296 * d1 + d0 = L) (h2 : V * Q1 + R1 = u * 4294967296 + d1) (h3 : V * Q0 + R0 = R1 * 4294967296 + d0) : u * W64 + L = R0 + V * (Q1 * 4294967296 + Q0) := by
  rw [Nat.mul_add, ← Nat.mul_assoc]
  have e : W64 = 18446744073709551616 := rfl
  generalize V * Q1 = a at *
  generalize V * Q0 = b at *
  rw [e]
  omega

/-- One half of the division: the loop ends with the right digit. -/
theorem knloop {V v1 v0 u d : Nat} (hv1 : V / 4294967296 = v1) (hv0 : V % 4294967296 = v0) (hV : V < W64) (hV2 : 9223372036854775808 ≤ V) (hu : u < V) (hd : d < 4294967296) {w : TW} {C : Int → Int → TW → Prop} {J : Int → TW → Prop} {q r : Nat}
    (hI : (u * 4294967296 + d) / V ≤ q ∧ q ≤ 4294967297 ∧ q * v1 + r = u ∧ r < 4294967296)
    (hC : ∀ q' r' : Nat, q' < q → (u * 4294967296 + d) / V ≤ q' ∧ q' ≤ 4294967297 ∧ q' * v1 + r' = u ∧ r' < 4294967296 → C q' r' w)
    (hJ : J ((u * 4294967296 + d) / V : Nat) w) :
    Jn [.bool] (fun J3 => cond (decide ((q : Int) ≥ 4294967296)) (J3 true w) (bnd (wu ((q : Int) * v0)) fun a => bnd (wu (4294967296 * (r : Int))) fun b => bnd (wu (b + d)) fun c => J3 (decide (a > c)) w))
      (fun (x : Bool) w5 => cond x (bnd (wu ((q : Int) - 1)) fun a => bnd (wu ((r : Int) + v1)) fun b => cond (decide (b ≥ 4294967296)) (J a w5) (C a b w5)) (J q w5)) := by
  obtain ⟨h1, h2, h3, h4⟩ := hI
  have hVe : v1 * 4294967296 + v0 = V := by have := Nat.div_add_mod V 4294967296; omega
  have hv0' : v0 < 4294967296 := by omega
  have hv1' : v1 < 4294967296 := by rw [w64] at hV; omega
  have hQ : u * 4294967296 + d < (v1 * 4294967296 + v0) * 4294967296 := by rw [hVe]; omega
  have hcur : ∀ q', (u * 4294967296 + d) / V ≤ q' → q' ≤ (u * 4294967296 + d) / V → q' = (u * 4294967296 + d) / V := fun _ a b => by omega
  have hq0 : q * v0 ≤ 4294967297 * v0 := Nat.mul_le_mul_right _ h2
  refine j1 (fun (x : Bool) w5 => w5 = w ∧ x = decide (4294967296 ≤ q ∨ 4294967296 * r + d < q * v0)) ?_ ?_
  · refine cnd_d (fun h => ⟨rfl, ?_⟩) (fun h => ?_)
    · rw [eq_comm, decide_eq_true_iff]; left; omega
    · have h : q < 4294967296 := by omega
      have hq1 : q * v0 ≤ 4294967295 * v0 := Nat.mul_le_mul_right _ (by omega)
      refine bnd_wu' (y := q * v0) (by simp) (by rw [w64]; omega) (bnd_wu' (y := 4294967296 * r) (by simp) (by rw [w64]; omega) (bnd_wu' (y := 4294967296 * r + d) (by simp) (by rw [w64]; omega) ⟨rfl, ?_⟩))
      rw [Bool.eq_iff_iff, decide_eq_true_iff, decide_eq_true_iff]
      omega
  rintro x w5 ⟨rfl, rfl⟩
  refine cnd_d (fun hc => ?_) (fun hc => ?_)
  · have hdec := kn_dec h3 hQ hc
    rw [hVe] at hdec
    have hs2 : ∀ q' r', q' * v1 + r' = u → 4294967296 ≤ r' → q' ≤ 4294967296 → q' ≤ (u * 4294967296 + d) / V := fun q' r' a b c => by
      have := kn_stop2 (d := d) (v0 := v0) (by rw [hVe]; omega) hv0' a b c
      rwa [hVe] at this
    generalize (u * 4294967296 + d) / V = QQ at *
    have hq' : (q - 1) * v1 + (r + v1) = u := by
      rw [← h3]
      have : q * v1 = (q - 1) * v1 + v1 := by rw [← Nat.succ_mul]; congr 1; omega
      omega
    refine bnd_wu' (y := q - 1) (by omega) (by rw [w64]; omega) (bnd_wu' (y := r + v1) (by omega) (by rw [w64]; omega) ?_)
    refine cnd_d (fun hr => ?_) (fun hr => ?_)
    · have hs := hs2 _ _ hq' (by omega) (by omega)
      rw [hcur (q - 1) (by omega) hs]
      exact hJ
    · exact hC (q - 1) (r + v1) (by omega) ⟨by omega, by omega, hq', by omega⟩
  · have hs := kn_stop1 (M := 4294967296) (d := d) (by rw [hVe]; omega) h3 (by omega)
    rw [hVe] at hs
    rw [hcur q h1 hs]
    exact hJ

theorem bits_Div64 {w : TW} {hi lo y : Nat} (hlo : lo < W64) (hy : y < W64) (hlt : hi < y) : Ct Pg F.bits_Div64 [.int .u64 hi, .int .u64 lo, .int .u64 y] w none_ [.one (.int .u64), .one (.int .u64)] fun (q r : Int) _ => q = ((hi * W64 + lo) / y : Nat) ∧ r = ((hi * W64 + lo) % y : Nat) := by
  refine Ct.bits_Div64 ?_
  unfold Sh.bits_Div64
  refine j0 (fun w' => w' = w.here) (cnd_f (by simp; omega) rfl) ?_
  rintro _ rfl
  refine j0 (fun w' => w' = w.here) (cnd_f (by simp; omega) rfl) ?_
  rintro _ rfl
  refine cnd_i (fun h => ?_) (fun h => ?_)
  · have : hi = 0 := by simp at h; omega
    subst this
    rw [Nat.zero_mul, Nat.zero_add]
    exact divNu (x := lo) (y := y) rfl rfl hlo (by omega) (remN (x := lo) (y := y) rfl rfl (by omega) (rt2 (c := .int .u64) (d := .int .u64) _ _ (Ext.refl _ _).drew ⟨rfl, rfl⟩))
  clear h
  refine c1 (bits_LeadingZeros64 hy) ?_
  rintro r w1 e rfl
  have hb1 := bl_le (x := y) (by omega)
  have hb2 := bl_lt y
  have hb3 := bl_pos (x := y) (by omega)
  have hb4 := bl_pow (k := 64) hy
  obtain ⟨s, hs⟩ : ∃ s, s = 64 - bl y := ⟨_, rfl⟩
  rw [← hs]
  have hs64 : s < 64 := by omega
  have hps : 0 < 2 ^ s := Nat.two_pow_pos s
  have hss : 2 ^ s * 2 ^ (64 - s) = W64 := by rw [← Nat.pow_add, w_pow]; congr 1; omega
  have hV : y * 2 ^ s < W64 := by
    rw [w_pow, show (64 : Nat) = bl y + s by omega, Nat.pow_add]
    exact Nat.mul_lt_mul_of_pos_right hb2 hps
  have hV2 : 9223372036854775808 ≤ y * 2 ^ s := by
    rw [show (9223372036854775808 : Nat) = 2 ^ 63 by decide, show (63 : Nat) = bl y - 1 + s by omega, Nat.pow_add]
    exact Nat.mul_le_mul_right _ hb1
  clear hb1 hb2 hb3 hb4 hs
  have hu : hi * 2 ^ s + lo / 2 ^ (64 - s) < y * 2 ^ s := by
    have h1 : lo / 2 ^ (64 - s) < 2 ^ s := Nat.div_lt_of_lt_mul (by rw [Nat.mul_comm, hss]; exact hlo)
    have h2 := Nat.mul_le_mul_right (2 ^ s) hlt
    rw [Nat.succ_mul] at h2
    omega
  have hU : (hi * W64 + lo) * 2 ^ s = (hi * 2 ^ s + lo / 2 ^ (64 - s)) * W64 + lo * 2 ^ s % W64 := by
    have h1 := Nat.div_add_mod lo (2 ^ (64 - s))
    have h2 : lo * 2 ^ s % W64 = lo % 2 ^ (64 - s) * 2 ^ s := by rw [← hss, Nat.mul_comm (2 ^ s), Nat.mul_mod_mul_right]
    rw [h2, ← hss]
    grind
  have hUl : lo * 2 ^ s % W64 < W64 := Nat.mod_lt _ (by decide)
  have hq : (hi * W64 + lo) / y = (hi * W64 + lo) * 2 ^ s / (y * 2 ^ s) := (Nat.mul_div_mul_right _ _ hps).symm
  have hr : (hi * W64 + lo) % y = (hi * W64 + lo) * 2 ^ s % (y * 2 ^ s) / 2 ^ s := by rw [Nat.mul_mod_mul_right, Nat.mul_div_cancel _ hps]
  rw [hq, hr, hU]
  clear hq hr hU
  have hn7 : lo / 2 ^ (64 - s) < 2 ^ s := Nat.div_lt_of_lt_mul (by rw [Nat.mul_comm, hss]; exact hlo)
  have hyW : hi * 2 ^ s < W64 := Nat.lt_of_le_of_lt (Nat.mul_le_mul_right _ (Nat.le_of_lt hlt)) hV
  refine bnd_wu' (y := s) rfl (by rw [w64]; omega) ?_
  refine shlN (x := y) (n := s) rfl rfl (by omega) ?_
  rw [Nat.mod_eq_of_lt hV]
  refine shrN (x := y * 2 ^ s) (n := 32) rfl rfl (by decide) ?_
  refine bnd_low (x := y * 2 ^ s) (k := 32) rfl (by decide) hV (by decide) ?_
  refine shlN (x := hi) (n := s) rfl rfl (by omega) ?_
  rw [Nat.mod_eq_of_lt hyW]
  refine bnd_wu' (y := 64 - s) (by omega) (by rw [w64]; omega) ?_
  refine shrN (x := lo) (n := 64 - s) rfl rfl (by show _ ≤ 64; omega) ?_
  refine bnd_plus (k := s) rfl rfl hyW (Nat.lt_of_le_of_lt (Nat.div_le_self _ _) hlo) (Nat.dvd_mul_left _ _) hn7 ?_
  refine shlN (x := lo) (n := s) rfl rfl (by omega) ?_
  generalize lo * 2 ^ s % W64 = L at *
  generalize hi * 2 ^ s + lo / 2 ^ (64 - s) = u at *
  generalize y * 2 ^ s = V at *
  clear hn7 hyW
  refine shrN (x := L) (n := 32) rfl rfl (by decide) ?_
  refine bnd_low (x := L) (k := 32) rfl (by decide) hUl (by decide) ?_
  have e32 : (2 : Nat) ^ 32 = 4294967296 := by decide
  rw [e32]
  have hLe := Nat.div_add_mod L 4294967296
  have hL1 : L / 4294967296 < 4294967296 := by rw [w64] at hUl; omega
  have hL0 : L % 4294967296 < 4294967296 := Nat.mod_lt _ (by decide)
  generalize L / 4294967296 = d1 at *
  generalize L % 4294967296 = d0 at *
  obtain ⟨v1, hv1⟩ : ∃ v1, V / 4294967296 = v1 := ⟨_, rfl⟩
  obtain ⟨v0, hv0⟩ : ∃ v0, V % 4294967296 = v0 := ⟨_, rfl⟩
  rw [hv1, hv0]
  have hv1p : 0 < v1 := by omega
  have hVe : v1 * 4294967296 + v0 = V := by have := Nat.div_add_mod V 4294967296; omega
  have init : ∀ u d : Nat, u < V → d < 4294967296 → (u * 4294967296 + d) / V ≤ u / v1 ∧ u / v1 ≤ 4294967297 ∧ u / v1 * v1 + u % v1 = u ∧ u % v1 < 4294967296 := fun u d h1 h2 => by
    have a := kn_init (M := 4294967296) (v1 := v1) (v0 := v0) (u := u) h2 hv1p
    rw [hVe] at a
    refine ⟨a, kn_top (M := 4294967296) (v1 := v1) (v0 := v0) (u := u) (by omega) (by omega) (by rw [hVe]; exact h1), by rw [Nat.mul_comm]; exact Nat.div_add_mod u v1, ?_⟩
    have := Nat.mod_lt u hv1p
    rw [w64] at hV
    omega
  have hrem : ∀ u, u < V → ((u + (W64 - u / v1 * v1 % W64)) % W64 : Nat) = u % v1 := fun u h => by
    have h1 := Nat.div_add_mod u v1
    have h2 : u / v1 * v1 = v1 * (u / v1) := Nat.mul_comm _ _
    have h3 := Nat.mod_le u v1
    generalize v1 * (u / v1) = X at *
    generalize u % v1 = Y at *
    rw [h2]
    rw [w64] at *
    omega
  have hdig : ∀ u d, u < V → d < 4294967296 → (u * 4294967296 + d) / V < 4294967296 := fun u d h1 h2 => Nat.div_lt_of_lt_mul (by omega)
  have hu64 : u < W64 := Nat.lt_trans hu hV
  refine divNu (x := u) (y := v1) rfl rfl hu64 (by omega) ?_
  refine bnd_wu (y := u / v1 * v1) (by simp) ?_
  refine bnd_wu_sub (a := u) (b := u / v1 * v1 % W64) rfl rfl (Nat.le_of_lt (Nat.mod_lt _ (by decide))) ?_
  rw [hrem u hu]
  refine j1 (fun (q : Int) w6 => w6 = w1 ∧ q = ((u * 4294967296 + d1) / V : Nat)) ?_ ?_
  · refine lp2 (fun m (q r : Int) w' => w' = w1 ∧ ∃ q' r' : Nat, q = q' ∧ r = r' ∧ m = q' ∧ (u * 4294967296 + d1) / V ≤ q' ∧ q' ≤ 4294967297 ∧ q' * v1 + r' = u ∧ r' < 4294967296) (u / v1) ⟨rfl, u / v1, u % v1, rfl, rfl, rfl, init u d1 hu hL1⟩ ?_
    rintro m q r w' ⟨rfl, q', r', rfl, rfl, rfl, hI⟩
    exact knloop hv1 hv0 hV hV2 hu hL1 hI (fun q'' r'' hlt h => ⟨q'', hlt, rfl, q'', r'', rfl, rfl, rfl, h⟩) ⟨rfl, rfl⟩
  rintro q w6 ⟨rfl, rfl⟩
  have hQ1 := hdig u d1 hu hL1
  have hdm1 := Nat.div_add_mod (u * 4294967296 + d1) V
  have hR1 := Nat.mod_lt (u * 4294967296 + d1) (show 0 < V by omega)
  obtain ⟨Q1, hq1⟩ : ∃ Q, (u * 4294967296 + d1) / V = Q := ⟨_, rfl⟩
  obtain ⟨R1, hr1⟩ : ∃ Q, (u * 4294967296 + d1) % V = Q := ⟨_, rfl⟩
  rw [hq1] at hQ1 hdm1 ⊢
  rw [hr1] at hR1 hdm1
  refine bnd_wu (y := u * 4294967296) (by simp) (bnd_wu (y := u * 4294967296 % W64 + d1) (by simp) (bnd_wu (y := V * Q1) (by simp [Int.mul_comm]) ?_))
  refine bnd_wu_sub (a := (u * 4294967296 % W64 + d1) % W64) (b := V * Q1 % W64) rfl rfl (Nat.le_of_lt (Nat.mod_lt _ (by decide))) ?_
  rw [sub_mod (R := R1) hdm1.symm (Nat.lt_trans hR1 hV)]
  refine divNu (x := R1) (y := v1) rfl rfl (Nat.lt_trans hR1 hV) (by omega) ?_
  refine bnd_wu (y := R1 / v1 * v1) (by simp) ?_
  refine bnd_wu_sub (a := R1) (b := R1 / v1 * v1 % W64) rfl rfl (Nat.le_of_lt (Nat.mod_lt _ (by decide))) ?_
  rw [hrem R1 hR1]
  refine j1 (fun (q : Int) w' => w' = w6 ∧ q = ((R1 * 4294967296 + d0) / V : Nat)) ?_ ?_
  · refine lp2 (fun m (r q : Int) w' => w' = w6 ∧ ∃ q' r' : Nat, q = q' ∧ r = r' ∧ m = q' ∧ (R1 * 4294967296 + d0) / V ≤ q' ∧ q' ≤ 4294967297 ∧ q' * v1 + r' = R1 ∧ r' < 4294967296) (R1 / v1) ⟨rfl, R1 / v1, R1 % v1, rfl, rfl, rfl, init R1 d0 hR1 hL0⟩ ?_
    rintro m r q w' ⟨rfl, q', r', rfl, rfl, rfl, hI⟩
    exact knloop (C := fun q r w => _) hv1 hv0 hV hV2 hR1 hL0 hI (fun q'' r'' hlt h => ⟨q'', hlt, rfl, q'', r'', rfl, rfl, rfl, h⟩) ⟨rfl, rfl⟩
  rintro q w' ⟨rfl, rfl⟩
  have hQ0 := hdig R1 d0 hR1 hL0
  have hdm0 := Nat.div_add_mod (R1 * 4294967296 + d0) V
  have hR0 := Nat.mod_lt (R1 * 4294967296 + d0) (show 0 < V by omega)
  obtain ⟨Q0, hq0⟩ : ∃ Q, (R1 * 4294967296 + d0) / V = Q := ⟨_, rfl⟩
  obtain ⟨R0, hr0⟩ : ∃ Q, (R1 * 4294967296 + d0) % V = Q := ⟨_, rfl⟩
  rw [hq0] at hQ0 hdm0 ⊢
  rw [hr0] at hR0 hdm0
  refine bnd_wu' (y := Q1 * 4294967296) (by simp) (by rw [w64]; omega) (bnd_wu' (y := Q1 * 4294967296 + Q0) (by simp) (by rw [w64]; omega) ?_)
  refine bnd_wu (y := R1 * 4294967296) (by simp) (bnd_wu (y := R1 * 4294967296 % W64 + d0) (by simp) (bnd_wu (y := V * Q0) (by simp [Int.mul_comm]) ?_))
  refine bnd_wu_sub (a := (R1 * 4294967296 % W64 + d0) % W64) (b := V * Q0 % W64) rfl rfl (Nat.le_of_lt (Nat.mod_lt _ (by decide))) ?_
  rw [sub_mod (R := R0) hdm0.symm (Nat.lt_trans hR0 hV)]
  refine shrN (x := R0) (n := s) rfl rfl (by show _ ≤ 64; omega) ?_
  have hall : u * W64 + L = R0 + V * (Q1 * 4294967296 + Q0) := kn_all hLe hdm1 hdm0
  rw [hall, Nat.add_mul_div_left _ _ (by omega : 0 < V), Nat.add_mul_mod_self_left, Nat.div_eq_of_lt hR0, Nat.mod_eq_of_lt hR0, Nat.zero_add]
  exact rt2 (c := .int .u64) (d := .int .u64) _ _ e ⟨rfl, rfl⟩
end Go.Proofs.Ythhohfgpaihngaa.Zg
