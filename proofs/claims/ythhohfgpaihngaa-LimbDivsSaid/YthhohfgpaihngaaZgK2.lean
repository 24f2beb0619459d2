/- A part of the proofs of this seat's laws: words, lemmas or contracts of its functions. -/
import Derived.Test.YthhohfgpaihngaaZgK1
set_option linter.unusedVariables false
set_option linter.unusedSimpArgs false
set_option linter.unnecessarySimpa false
namespace Go.Proofs.Ythhohfgpaihngaa.Zg

theorem sz_le_of_two {x y : Nat} (h : x ≤ 2 * y) : sz x ≤ sz y + 1 := by
  refine sz_pow ?_
  rw [Nat.pow_succ]
  have := lt_sz y
  have : 2 * W64 ^ sz y ≤ W64 ^ sz y * W64 := by rw [Nat.mul_comm]; exact Nat.mul_le_mul_left _ W2
  omega

/-- One word of a sum. -/
theorem add_step {B P A a b c s c' p : Nat} (h : P + p * c = A) (hs : s = (a + b + c) % B) (hc : c' = (a + b + c) / B) : P + p * s + p * B * c' = A + p * (a + b) := by
  have := Nat.mod_add_div (a + b + c) B
  subst hs hc
  grind
/-- One word of a difference. -/
theorem sub_step {B P Q A a b c s c' p : Nat} (h : P + Q = A + p * c) (ha : a < B) (hb : b < B) (hc1 : c ≤ 1) (hs : s = (a + B - b - c) % B) (hc : c' = if a < b + c then 1 else 0) : P + p * s + (Q + p * b) = A + p * a + p * B * c' := by
  have h2 : s + b + c = a + B * c' := by
    subst hs hc
    split
    · rw [Nat.mod_eq_of_lt (by omega)]; omega
    · rw [show a + B - b - c = a - b - c + B by omega, Nat.add_mod_right, Nat.mod_eq_of_lt (by omega)]; omega
  grind

theorem limb_Add {w : TW} {s t : Sl} {x y : Nat} (hs : Nt w s x) (ht : Nt w t y) (hx : sz x ≤ 1099511627776) (hy : sz y ≤ 1099511627776) : Ct Pg F.limb_Add [s.v, t.v] w none_ [.one .slice] fun (s' : Sl) w' => On w' w.w.heap.size s' (x + y) := by
  refine Ct.limb_Add ?_
  unfold Sh.limb_Add
  refine tr hs.here fun s1 w1 e1 h1 => tr (ht.here.ext e1) fun s2 w2 e2 h2 => ?_
  have h1 := h1.ext e2
  have e := e1.trans e2
  have l1 := h1.len
  have l2 := h2.len
  refine j2 (fun (a b : Sl) w3 => ∃ X Y, Rd w3 a (dg W64 X) ∧ Rd w3 b (dg W64 Y) ∧ X + Y = x + y ∧ sz Y ≤ sz X ∧ sz X ≤ 1099511627776 ∧ Ext none_ w.here w3) ?_ ?_
  · refine cnd_d (fun h0 => ?_) (fun h0 => ?_)
    · exact ⟨y, x, h2, h1, Nat.add_comm _ _, by simp only [sz]; omega, hy, e⟩
    · exact ⟨x, y, h1, h2, rfl, by simp only [sz]; omega, hx, e⟩
  rintro a b w3 ⟨X, Y, ha, hb, hXY, hle, hX, e⟩
  have la := ha.len
  rw [dg_len] at la
  refine bnd_wi (by omega) (by omega) (mk_u64 (N := sz X + 1) (by omega) (by omega) fun o w4 ho hon e4 hbk => ?_)
  refine j1 (fun (c : Int) w5 => ∃ (P : List Nat) (d : Nat), c = d ∧ d ≤ 1 ∧ P.length = sz X ∧ vl W64 P + W64 ^ sz X * d = X + Y ∧ Ow w5 w3.w.heap.size o (P ++ [0]) ∧ Ext none_ w3 w5) ?_ ?_
  · refine lp2 (fun m (c i : Int) w5 => ∃ (j d : Nat) (P : List Nat), c = d ∧ i = j ∧ m = sz X - j ∧ j ≤ sz X ∧ d ≤ 1 ∧ P.length = j ∧ vl W64 P + W64 ^ j * d = vl W64 ((dg W64 X).take j) + vl W64 ((dg W64 Y).take j) ∧ Ow w5 w3.w.heap.size o (P ++ List.replicate (sz X + 1 - j) 0) ∧ Ext none_ w3 w5) (sz X) ⟨0, 0, [], rfl, rfl, by omega, by omega, by omega, rfl, rfl, ho, e4⟩ ?_
    rintro m c i w5 ⟨j, d, P, rfl, rfl, rfl, hj, hd, hP, hv, ho, e5⟩
    refine cnd_d (fun h0 => ?_) (fun h0 => ?_)
    · have hj1 : j < (dg W64 X).length := by rw [dg_len]; omega
      refine (hb.ext e5).at0 rfl ((ha.ext e5).ix rfl hj1 ⟨_, _, _, rfl, rfl, rfl, hd, ?_⟩)
      rw [show sz X + 1 - j = (sz X - j) + 1 by omega] at ho
      refine ho.put (by omega) (Nat.mod_lt _ (by decide)) rfl fun w6 ho e6 => ?_
      refine bnd_wi (by omega) (by omega) ⟨sz X - (j + 1), by omega, j + 1, _, P ++ [_], rfl, by omega, rfl, by omega, ?_, by simp [hP], ?_, by rw [show sz X + 1 - (j + 1) = sz X - j by omega]; exact ho, e5.own e6 ho.blk_le⟩
      · have h3 := ha.lt j
        have h4 := hb.lt j
        omega
      · rw [vl_snoc, hP, Nat.pow_succ, add_step hv rfl rfl, vl_take_getD, vl_take_getD]
        grind
    · have hj : j = sz X := by omega
      subst hj
      refine ⟨P, d, rfl, hd, hP, ?_, by rwa [show sz X + 1 - sz X = 1 by omega] at ho, e5⟩
      rw [hv, vl_take_all (by simp [sz]), vl_take_all (by simpa [sz] using hle), vl_dg W2, vl_dg W2]
  · rintro c w5 ⟨P, d, rfl, hd, hP, hv, ho, e5⟩
    refine ho.put (k := 0) (by omega) (one_w hd) rfl fun w6 ho e6 => ?_
    have e5 := e5.own e6 ho.blk_le
    refine trO ho fun s' w7 e7 h7 => rt1 (c := .slice) _ ((e.trans e5).trans e7) ?_
    rw [List.replicate_zero, List.append_nil, vl_snoc, hP, hv, hXY] at h7
    exact (h7.less e.size).at
end Go.Proofs.Ythhohfgpaihngaa.Zg
