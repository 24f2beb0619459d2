/- A part of the proofs of this seat's laws: words, lemmas or contracts of its functions. -/
import Derived.Test.YthhohfgpaihngaaZgQ5
set_option linter.unusedVariables false
set_option linter.unusedSimpArgs false
set_option linter.unnecessarySimpa false
namespace Go.Proofs.Ythhohfgpaihngaa.Zg
open Go.RowKit

theorem twice_step {p M L L' v c s c' O T : Nat} (h1 : s + M * c' = 2 * v + c) (hL : L' + p * v = L + p * s) (hi : L + p * c = O + T) : L' + p * M * c' = O + (T + p * v) := by
  have : p * s + p * (M * c') = p * v + p * v + p * c := by rw [← Nat.mul_add, h1]; grind
  grind

theorem ref_twice {w : TW} {B : Nat} {r d : Sl} {L : List Nat} {D b : Nat} (hr : Ow w B r L) (hsm : Sm B32 L) (hL : L.length = dz D + 1) (hd : Dr w d D) (hv : vl B32 L < D) (hb : b ≤ 1) (hD : dz D ≤ 274877906944) (hne : ∀ c, d.blk = some c → ¬ r.blk = some c) :
    Ct Pg F.zigguratref02_twice [r.v, .int .u64 b, d.v] w (fun c => r.blk = some c) [.one .bool] fun (ok : Bool) w' => ok = decide (D ≤ 2 * vl B32 L + b) ∧ ∃ L', Ow w' B r L' ∧ Sm B32 L' ∧ L'.length = dz D + 1 ∧ vl B32 L' = (if D ≤ 2 * vl B32 L + b then 2 * vl B32 L + b - D else 2 * vl B32 L + b) := by
  refine Ct.zigguratref02_twice ?_
  unfold Sh.zigguratref02_twice
  have lr := hr.rd.len
  have ld := hd.len
  have hd := hd.here
  obtain ⟨T, hT⟩ : ∃ T, T = 2 * vl B32 L + b := ⟨_, rfl⟩
  rw [← hT]
  have hDp := dz_lt D
  have hTB : T < B32 ^ (dz D + 1) := by
    rw [Nat.pow_succ]
    have : 2 * B32 ^ dz D ≤ B32 ^ dz D * B32 := by rw [Nat.mul_comm]; exact Nat.mul_le_mul_left _ (by decide)
    omega
  have hdk : ∀ {w'}, Ext (fun c => r.blk = some c) w.here w' → Rd w' d (dg B32 D) := fun h => Rd.extX hd h hne
  refine j0 (fun w1 => ∃ P, Ow w1 B r P ∧ Sm B32 P ∧ P.length = dz D + 1 ∧ vl B32 P = T ∧ Ext (fun c => r.blk = some c) w.here w1) ?_ ?_
  · refine lp2 (fun m (c i : Int) w1 => ∃ (j e : Nat) (P : List Nat), c = e ∧ i = j ∧ m = dz D + 1 - j ∧ j ≤ dz D + 1 ∧ e ≤ 1 ∧ P.length = dz D + 1 ∧ Ow w1 B r P ∧ Sm B32 P ∧ (∀ k, j ≤ k → P.getD k 0 = L.getD k 0) ∧ vl B32 P + B32 ^ j * e = vl B32 L + (vl B32 (L.take j) + b) ∧ Ext (fun c => r.blk = some c) w.here w1) (dz D + 1) ⟨0, b, L, rfl, rfl, by omega, by omega, hb, hL, hr.here, hsm, fun _ _ => rfl, by simp [vl_nil], Ext.refl _ _⟩ ?_
    rintro m c i w1 ⟨j, e, P, rfl, rfl, rfl, hj, he, hP, ho, hs, hk, hvl, hx⟩
    refine cnd_d (fun h => ?_) (fun h => ?_)
    · have hjP : j < P.length := by omega
      have hgo := vl_take_getD B32 L j
      have hset := vl_set (b := B32) hjP
      have hlt := hs.getD (by decide) j
      refine ho.rd.ix rfl hjP ?_
      rw [show P[j] = P.getD j 0 by simp [hjP]] at hset
      rw [hk j (Nat.le_refl _)] at hset hlt ⊢
      rw [b32] at hlt
      generalize L.getD j 0 = v at *
      refine bnd_wu' (y := 2 * v) (by simp) (by rw [w64]; omega) (bnd_wu' (y := 2 * v + e) (by simp) (by rw [w64]; omega) ?_)
      refine remN (x := 2 * v + e) (y := 4294967296) rfl rfl (by decide) ?_
      have hm : (2 * v + e) % 4294967296 < B32 := Nat.mod_lt _ (by decide)
      refine ho.store (j := j) rfl hjP (bw hm) rfl fun w2 ho2 e2 => ?_
      refine divNu (x := 2 * v + e) (y := 4294967296) rfl rfl (by rw [w64]; omega) (by decide) ?_
      refine bnd_wi (by omega) (by omega) ⟨dz D + 1 - (j + 1), by omega, j + 1, _, _, rfl, by omega, rfl, by omega, by omega, by simp [hP], ho2, hs.set _ hm, fun k hk2 => ?_, ?_, hx.trans e2⟩
      · rw [getD_set_ne (by omega)]; exact hk k (by omega)
      · have := twice_step (Nat.mod_add_div (2 * v + e) 4294967296) (hset ((2 * v + e) % 4294967296)) hvl
        rw [Nat.pow_succ, hgo, this]
        omega
    · have : j = dz D + 1 := by omega
      subst this
      rw [vl_take_all (l := L) (by omega)] at hvl
      refine ⟨P, ho, hs, hP, ?_, hx⟩
      have h1 : e = 0 := by
        rcases Nat.eq_zero_or_pos e with h | h
        · exact h
        · have := Nat.mul_le_mul_left (B32 ^ (dz D + 1)) h
          omega
      subst h1; omega
  rintro w1 ⟨P, ho, hs, hP, hPT, hx⟩
  obtain ⟨E, hE⟩ : ∃ E, E = dg B32 D ++ [0] := ⟨_, rfl⟩
  have hEl : E.length = dz D + 1 := by rw [hE]; simp [dz_eq]
  have hEv : vl B32 E = D := by rw [hE, vl_snoc, vl_dg b2]; simp
  have hEs : Sm B32 E := by rw [hE]; exact (dg_sm b2 D).snoc (by decide)
  have hEg : ∀ k, (dg B32 D).getD k 0 = E.getD k 0 := fun k => by
    rw [hE]
    rcases Nat.lt_or_ge k (dg B32 D).length with h | h
    · simp [List.getElem?_append_left h]
    · rw [getD_past h]
      rcases Nat.lt_or_ge k (dg B32 D ++ [0]).length with h2 | h2
      · have : k = (dg B32 D).length := by simp at h2; omega
        subst this; simp
      · rw [getD_past h2]
  refine bnd_wi (by omega) (by omega) ?_
  refine j1 (fun (more : Bool) w2 => w2 = w1 ∧ more = decide (D ≤ T)) ?_ ?_
  · refine lp2 (fun m (more : Bool) (i : Int) w2 => w2 = w1 ∧ more = true ∧ ∃ j : Nat, i = j - 1 ∧ m = j ∧ j ≤ dz D + 1 ∧ vl B32 (P.drop j) = vl B32 (E.drop j)) (dz D + 1) ⟨rfl, rfl, dz D + 1, by omega, rfl, Nat.le_refl _, by rw [List.drop_of_length_le (by omega), List.drop_of_length_le (by omega)]⟩ ?_
    rintro m more i w2 ⟨rfl, rfl, j, rfl, rfl, hj, he⟩
    refine cnd_d (fun h => ?_) (fun h => ?_)
    · have hk : m - 1 < P.length := by omega
      have hk2 : m - 1 < E.length := by omega
      have e1 : (m : Int) - 1 = (m - 1 : Nat) := by omega
      have hp : P.getD (m - 1) 0 = P[m - 1] := by simp [hk]
      have hq : E.getD (m - 1) 0 = E[m - 1] := by simp [hk2]
      have hm1 : m - 1 + 1 = m := by omega
      refine (hdk hx).at0 e1 ?_
      refine ho.rd.ix e1 hk ?_
      rw [hEg, hp, hq]
      refine cnd_i (fun h2 => ?_) (fun h2 => ?_)
      · refine ho.rd.ix e1 hk ?_
        rw [hp]
        refine ⟨rfl, ?_⟩
        have h2 : P[m - 1] ≠ E[m - 1] := by simp at h2; omega
        rw [Bool.eq_iff_iff, decide_eq_true_iff, decide_eq_true_iff]
        rcases Nat.lt_or_ge E[m - 1] P[m - 1] with h3 | h3
        · have := vl_lt_of_top hEs hk2 hk h3 (by rw [hm1, he]; exact Nat.le_refl _)
          rw [hEv, hPT] at this
          omega
        · have := vl_lt_of_top hs hk hk2 (by omega) (by rw [hm1, he]; exact Nat.le_refl _)
          rw [hEv, hPT] at this
          omega
      · have h2 : P[m - 1] = E[m - 1] := by simp at h2; omega
        refine bnd_wi (by omega) (by omega) ⟨m - 1, by omega, rfl, rfl, m - 1, by omega, rfl, by omega, ?_⟩
        rw [List.drop_eq_getElem_cons hk, List.drop_eq_getElem_cons hk2, hm1, vl_cons, vl_cons, he, h2]
    · have : m = 0 := by omega
      subst this
      rw [List.drop_zero, List.drop_zero, hPT, hEv] at he
      exact ⟨rfl, by simp [he]⟩
  rintro more w2 ⟨rfl, rfl⟩
  refine cnd_i (fun h => ?_) (fun h => ?_)
  · have h : ¬ D ≤ T := by simpa using h
    refine rt1 (c := .bool) _ hx ⟨by simp [h], P, ho.at, hs, hP, ?_⟩
    rw [if_neg h, hPT]
  have hDT : D ≤ T := by simpa using h
  refine j0 (fun w3 => ∃ Q, Ow w3 B r Q ∧ Sm B32 Q ∧ Q.length = dz D + 1 ∧ vl B32 Q = T - D ∧ Ext (fun c => r.blk = some c) w.here w3) ?_ ?_
  · refine lp2 (fun m (c i : Int) w1 => ∃ (j e : Nat) (P : List Nat), c = e ∧ i = j ∧ m = dz D + 1 - j ∧ j ≤ dz D + 1 ∧ e ≤ 1 ∧ P.length = dz D + 1 ∧ Ow w1 B r P ∧ Sm B32 P ∧ vl B32 P + vl B32 ((dg B32 D).take j) = T + B32 ^ j * e ∧ Ext (fun c => r.blk = some c) w.here w1) (dz D + 1) ⟨0, 0, P, rfl, rfl, by omega, by omega, by omega, hP, ho, hs, by simp [vl_nil, hPT], hx⟩ ?_
    clear ho hs hP hPT hx P
    rintro m c i w1 ⟨j, e, P, rfl, rfl, rfl, hj, he, hP, ho, hs, hvl, hx⟩
    refine cnd_d (fun h => ?_) (fun h => ?_)
    · have hjP : j < P.length := by omega
      have hgo := vl_take_getD B32 (dg B32 D) j
      have hset := vl_set (b := B32) hjP
      have hlt := hs.getD (by decide) j
      have hdl : (dg B32 D).getD j 0 < 4294967296 := (dg_sm b2 D).getD (by decide) j
      rw [b32] at hlt
      refine (hdk hx).add0 rfl rfl (by rw [w64]; omega) (ho.rd.ix rfl hjP ?_)
      rw [show P[j] = P.getD j 0 by simp [hjP]] at hset
      refine j1 (fun (c : Int) w3 => ∃ z e' : Nat, c = e' ∧ e' ≤ 1 ∧ z < B32 ∧ z + (dg B32 D).getD j 0 + e = P.getD j 0 + B32 * e' ∧ Ow w3 B r (P.set j z) ∧ Ext (fun c => r.blk = some c) w.here w3) ?_ ?_
      · refine cnd_d (fun h1 => ?_) (fun h1 => ?_)
        · refine ho.rd.ix rfl hjP ?_
          generalize P.getD j 0 = v at *
          generalize (dg B32 D).getD j 0 = u at *
          refine bnd_wu' (y := v - (e + u)) (by omega) (by rw [w64]; omega) ?_
          exact ho.store (j := j) rfl hjP (by rw [w64]; omega) rfl fun w4 ho4 e4 => ⟨v - (e + u), 0, rfl, by omega, by rw [b32]; omega, by omega, ho4, hx.trans e4⟩
        · refine ho.rd.ix rfl hjP ?_
          generalize P.getD j 0 = v at *
          generalize (dg B32 D).getD j 0 = u at *
          refine bnd_wu' (y := 4294967296 - (e + u)) (by omega) (by rw [w64]; omega) (bnd_wu' (y := v + (4294967296 - (e + u))) (by omega) (by rw [w64]; omega) ?_)
          exact ho.store (j := j) rfl hjP (by rw [w64]; omega) rfl fun w4 ho4 e4 => ⟨v + (4294967296 - (e + u)), 1, rfl, by omega, by rw [b32]; omega, by rw [b32]; omega, ho4, hx.trans e4⟩
      rintro c w3 ⟨z, e', rfl, he', hz, heq, ho3, hx3⟩
      refine bnd_wi (by omega) (by omega) ⟨dz D + 1 - (j + 1), by omega, j + 1, _, _, rfl, by omega, rfl, by omega, he', by simp [hP], ho3, hs.set _ hz, ?_, hx3⟩
      have hset := hset z
      rw [Nat.pow_succ, hgo]
      generalize P.getD j 0 = v at *
      generalize (dg B32 D).getD j 0 = u at *
      have : B32 ^ j * z + B32 ^ j * u + B32 ^ j * e = B32 ^ j * v + B32 ^ j * B32 * e' := by
        have := congrArg (B32 ^ j * ·) heq
        simp only [Nat.mul_add] at this
        rw [Nat.mul_assoc]
        exact this
      omega
    · have : j = dz D + 1 := by omega
      subst this
      rw [vl_take_all (l := dg B32 D) (by rw [dz_eq]; omega), vl_dg b2] at hvl
      refine ⟨P, ho, hs, hP, ?_, hx⟩
      have h1 := vl_lt hs
      rw [hP] at h1
      have h1 : e = 0 := by
        rcases Nat.eq_zero_or_pos e with h | h
        · exact h
        · have := Nat.mul_le_mul_left (B32 ^ (dz D + 1)) h
          omega
      subst h1; omega
  rintro w3 ⟨Q, hQ, hQs, hQl, hQv, hx3⟩
  refine rt1 (c := .bool) _ hx3 ⟨by simp [hDT], Q, hQ.at, hQs, hQl, ?_⟩
  rw [if_pos hDT, hQv]
end Go.Proofs.Ythhohfgpaihngaa.Zg
