/- A part of the proofs of this seat's laws: words, lemmas or contracts of its functions. -/
import Derived.Test.YthhohfgpaihngaaZgK8
set_option linter.unusedVariables false
set_option linter.unusedSimpArgs false
set_option linter.unnecessarySimpa false
namespace Go.Proofs.Ythhohfgpaihngaa.Zg
open Go.RowKit

theorem limb_DivWord {w : TW} {s : Sl} {x y : Nat} (hs : Nt w s x) (hy : y < W64) (hx : sz x ≤ 1099511627776) : Ct Pg F.limb_DivWord [s.v, .int .u64 y] w none_ [.one .slice, .one (.int .u64), .one (.int .i64)] fun (s' : Sl) (r e : Int) w' => On w' w.w.heap.size s' (x / y) ∧ r = (if y = 0 then 0 else x % y : Nat) ∧ e = (if y = 0 then 2 else 0 : Nat) := by
  refine Ct.limb_DivWord ?_
  unfold Sh.limb_DivWord
  refine cnd_i (fun h => ?_) (fun h => ?_)
  · have : y = 0 := by simp at h; omega
    subst this
    refine rt3 (c := .slice) (d := .int .u64) (e := .int .i64) Sl.nil 0 2 (Ext.refl _ _) ⟨?_, rfl, rfl⟩
    rw [Nat.div_zero]; exact On.nil _ _
  have hy0 : y ≠ 0 := by intro h0; subst h0; simp at h
  clear h
  refine tr hs.here fun s2 w2 e ha => ?_
  have la := ha.len
  rw [dg_len] at la
  refine mk_u64 (N := sz x) (by omega) (by omega) fun o w4 ho hon e4 hbk => ?_
  refine bnd_wi (by omega) (by omega) ?_
  refine j1 (fun (r : Int) w5 => ∃ (Q : List Nat) (d : Nat), r = d ∧ d < y ∧ y * vl W64 Q + d = x ∧ Ow w5 w2.w.heap.size o Q ∧ Ext none_ w2 w5) ?_ ?_
  · refine lp2 (fun m (r i : Int) w5 => ∃ (j d : Nat) (Q : List Nat), r = d ∧ i = j - 1 ∧ m = j ∧ j ≤ sz x ∧ d < y ∧ Q.length = sz x - j ∧ y * vl W64 Q + d = vl W64 ((dg W64 x).drop j) ∧ Ow w5 w2.w.heap.size o (List.replicate j 0 ++ Q) ∧ Ext none_ w2 w5) (sz x) ⟨sz x, 0, [], rfl, by omega, rfl, by omega, by omega, by simp, ?_, by simpa using ho, e4⟩ ?_
    · rw [List.drop_of_length_le (by rw [dg_len]; exact Nat.le_refl _)]; simp [vl_nil]
    rintro m r i w5 ⟨j, d, Q, rfl, rfl, rfl, hj, hd, hQ, hv, ho, e5⟩
    refine cnd_d (fun h0 => ?_) (fun h0 => ?_)
    · obtain ⟨j, rfl⟩ : ∃ j, m = j + 1 := ⟨m - 1, by omega⟩
      have hj1 : j < (dg W64 x).length := by rw [dg_len]; omega
      refine (ha.ext e5).ix (j := j) (by omega) hj1 ?_
      have hvl := ha.lt j
      refine c2 (bits_Div64 hvl hy hd) ?_
      rintro q r w6 e6 ⟨rfl, rfl⟩
      have e5 := e5.trans e6
      have ho := ho.ext e6
      have hq : (d * W64 + (dg W64 x).getD j 0) / y < W64 := by
        refine Nat.div_lt_of_lt_mul ?_
        have := Nat.mul_le_mul_right W64 hd
        rw [Nat.succ_mul] at this
        exact Nat.lt_of_lt_of_le (Nat.add_lt_add_left hvl _) this
      refine ho.store (j := j) (by omega) (by simp; omega) hq rfl fun w7 ho7 e7 => ?_
      have hset : (List.replicate (j + 1) 0 ++ Q).set j ((d * W64 + (dg W64 x).getD j 0) / y) = List.replicate j 0 ++ (d * W64 + (dg W64 x).getD j 0) / y :: Q := by
        have h1 : List.replicate (j + 1) 0 ++ Q = List.replicate j 0 ++ 0 :: Q := by rw [List.replicate_succ']; simp
        rw [h1]
        simp
      rw [hset] at ho7
      refine bnd_wi (by omega) (by omega) ⟨j, by omega, j, _, _, rfl, by omega, rfl, by omega, Nat.mod_lt _ (by omega), by simp [hQ]; omega, ?_, ho7, e5.own e7 ho.blk_le⟩
      have hdm := Nat.div_add_mod (d * W64 + (dg W64 x).getD j 0) y
      rw [List.drop_eq_getElem_cons hj1, vl_cons, vl_cons, ← hv, show (dg W64 x)[j] = (dg W64 x).getD j 0 by simp [hj1]]
      generalize (d * W64 + (dg W64 x).getD j 0) / y = q at *
      generalize (d * W64 + (dg W64 x).getD j 0) % y = r at *
      grind
    · have : m = 0 := by omega
      subst this
      rw [List.drop_zero, vl_dg W2] at hv
      exact ⟨Q, d, rfl, hd, hv, by simpa using ho, e5⟩
  · rintro r w5 ⟨Q, d, rfl, hd, hv, ho, e5⟩
    refine trO ho fun s' w7 e7 h7 => rt3 (c := .slice) (d := .int .u64) (e := .int .i64) _ _ _ ((e.trans e5).trans e7) ⟨?_, ?_, ?_⟩
    · have : x / y = vl W64 Q := by rw [← hv, Nat.mul_add_div (by omega), Nat.div_eq_of_lt hd, Nat.add_zero]
      rw [this]
      exact (h7.less e.size).at
    · rw [if_neg hy0, ← hv, Nat.mul_add_mod, Nat.mod_eq_of_lt hd]
    · rw [if_neg hy0]; rfl

/-! ### Rows of numbers -/
/-- A slice of slices that hold numbers. -/
def Rs (w : TW) (s : Sl) (xs : List Nat) : Prop := ∃ ss : List Sl, Rdv w 1 s (ss.map Sl.v) ∧ ss.length = xs.length ∧ ∀ i t, ss[i]? = some t → Nt w t (xs.getD i 0)
theorem Rs.len {w : TW} {s : Sl} {xs : List Nat} (h : Rs w s xs) : s.n = xs.length := by
  obtain ⟨ss, h1, h2, _⟩ := h
  have := h1.1
  simp at this; omega
theorem Rs.here {w : TW} {s : Sl} {xs : List Nat} (h : Rs w s xs) : Rs w.here s xs := h.imp fun _ h => ⟨h.1, h.2.1, fun i t ht => (h.2.2 i t ht).here⟩
theorem Rs.ext {w w' : TW} {s : Sl} {xs : List Nat} (h : Rs w s xs) (hx : Ext none_ w w') : Rs w' s xs := h.imp fun _ h => ⟨h.1.ext hx fun _ _ h => h, h.2.1, fun i t ht => (h.2.2 i t ht).ext hx⟩
theorem Rs.idx {w : TW} {s : Sl} {xs : List Nat} (h : Rs w s xs) {i : Int} {j : Nat} (hi : i = j) (hj : j < xs.length) {K : Sl → Prop} (hK : ∀ t, Nt w t (xs.getD j 0) → K t) : ixa s i 1 (fun a => ldc .slice w a K) := by
  subst hi
  have hl := h.len
  obtain ⟨ss, ⟨_, _, _, h4⟩, h5, h6⟩ := h
  have hjs : j < ss.length := by omega
  obtain ⟨b, o, hp, _, hc⟩ := h4 (fun e => by have := congrArg List.length e; simp at this; subst this; simp at hjs)
  refine ⟨⟨b, o, none⟩, hp, by omega, by omega, ss[j], ?_, hK _ (h6 j _ (by simp [hjs]))⟩
  rw [Int.toNat_natCast, Nat.mul_one, Addr.add_mk]
  exact hc j _ (by simp [hjs]; rfl)

theorem Rs.idxE {w w' : TW} {s : Sl} {xs : List Nat} (h : Rs w s xs) (hx : Ext none_ w w') {i : Int} {j : Nat} (hi : i = j) (hj : j < xs.length) {K : Sl → Prop} (hK : ∀ t, Nt w t (xs.getD j 0) → K t) : ixa s i 1 (fun a => ldc .slice w' a K) := by
  subst hi
  have hl := h.len
  obtain ⟨ss, h0, h5, h6⟩ := h
  have h4 := (h0.ext hx fun _ _ h => h).2.2.2
  have hjs : j < ss.length := by omega
  obtain ⟨b, o, hp, _, hc⟩ := h4 (fun e => by have := congrArg List.length e; simp at this; subst this; simp at hjs)
  refine ⟨⟨b, o, none⟩, hp, by omega, by omega, ss[j], ?_, hK _ (h6 j _ (by simp [hjs]))⟩
  rw [Int.toNat_natCast, Nat.mul_one, Addr.add_mk]
  exact hc j _ (by simp [hjs]; rfl)
theorem wi_mul {a b : Nat} (h : a * b ≤ 9223372036854775807) : wi ((a : Int) * (b : Int)) = (a * b : Nat) := by
  rw [← Int.natCast_mul]
  generalize a * b = c at *
  exact wi_id (by omega) (by omega)
theorem pow_w (r i : Nat) : (W64 ^ r) ^ i = W64 ^ (r * i) := (Nat.pow_mul _ _ _).symm
theorem vl_take_le {r n : Nat} {xs : List Nat} (h : ∀ t, t < xs.length → xs.getD t 0 * W64 ^ (r * t) < W64 ^ n) : ∀ i, i ≤ xs.length → vl (W64 ^ r) (xs.take i) ≤ i * W64 ^ n
  | 0, _ => by simp [vl_nil]
  | i + 1, hi => by
    have := vl_take_le h i (by omega)
    rw [vl_take_getD, pow_w, Nat.succ_mul, Nat.mul_comm (W64 ^ _)]
    have := h i hi
    omega

theorem limb_Join {w : TW} {s : Sl} {xs : List Nat} {k : Int} (hs : Rs w s xs) (hn : xs.length ≤ 1048576) (hx : ∀ t, sz (xs.getD t 0) ≤ 549755813888) : Ct Pg F.limb_Join [.int .i64 k, s.v] w none_ [.one .slice] fun (s' : Sl) w' => On w' w.w.heap.size s' (vl (W64 ^ min k.toNat 16384) xs) := by
  refine Ct.limb_Join ?_
  unfold Sh.limb_Join
  refine c1 (limb_within (by decide)) ?_
  rintro r w1 e1 rfl
  have hs := hs.here.ext e1
  have hl := hs.len
  have hr : min k.toNat (16384 : Int).toNat ≤ 16384 := by omega
  rw [show (16384 : Int).toNat = 16384 by rfl] at hr ⊢
  generalize min k.toNat 16384 = r at *
  have hri : ∀ i, i < xs.length → r * i ≤ 16384 * 1048576 := fun i hi => Nat.mul_le_mul hr (by omega)
  refine j1 (fun (n : Int) w2 => ∃ n0 : Nat, n = n0 ∧ n0 ≤ 1099511627770 ∧ (∀ t, t < xs.length → 0 < xs.getD t 0 → r * t + sz (xs.getD t 0) ≤ n0) ∧ Ext none_ w1 w2) ?_ ?_
  · refine lp2 (fun m (n i : Int) w2 => ∃ n0 j : Nat, n = n0 ∧ i = j ∧ m = xs.length - j ∧ j ≤ xs.length ∧ n0 ≤ 1099511627770 ∧ (∀ t, t < j → 0 < xs.getD t 0 → r * t + sz (xs.getD t 0) ≤ n0) ∧ Ext none_ w1 w2) xs.length ⟨0, 0, rfl, rfl, rfl, by omega, by omega, fun t h => by omega, Ext.refl _ _⟩ ?_
    rintro m n i w2 ⟨n0, j, rfl, rfl, rfl, hj, hn0, hmax, e2⟩
    refine cnd_d (fun h0 => ?_) (fun h0 => ?_)
    · have hj1 : j < xs.length := by omega
      refine (hs.ext e2).idx rfl hj1 fun t ht => ?_
      obtain ⟨l, hl1, hl2⟩ := ht
      refine c1 (api_Nat_Len hl1) ?_
      rintro r1 w3 e3 rfl
      rw [hl2]
      have hxj := hx j
      have hrj := hri j hj1
      refine j1 (fun (n : Int) w4 => w4 = w3 ∧ ∃ n1 : Nat, n = n1 ∧ n1 ≤ 1099511627770 ∧ n0 ≤ n1 ∧ (0 < xs.getD j 0 → r * j + sz (xs.getD j 0) ≤ n1)) ?_ ?_
      · refine cnd_d (fun h1 => ?_) (fun h1 => ?_)
        · refine bnd_eq (y := ((r * j : Nat) : Int)) (wi_mul (by omega)) ?_
          refine bnd_wi (by omega) (by omega) (bnd_i ⟨rfl, if n0 < r * j + sz (xs.getD j 0) then r * j + sz (xs.getD j 0) else n0, ?_, ?_, ?_, ?_⟩)
          · split <;> split <;> omega
          · split <;> omega
          · split <;> omega
          · intro; split <;> omega
        · refine ⟨rfl, n0, rfl, hn0, Nat.le_refl _, fun h2 => ?_⟩
          have := (not_congr (sz_zero (x := xs.getD j 0))).2 (by omega)
          omega
      rintro n w4 ⟨rfl, n1, rfl, h1, h2, h3⟩
      refine bnd_wi (by omega) (by omega) ⟨xs.length - (j + 1), by omega, n1, j + 1, rfl, by omega, rfl, hj1, h1, fun t ht hpos => ?_, e2.trans e3⟩
      rcases Nat.lt_or_ge t j with h | h
      · exact Nat.le_trans (hmax t h hpos) h2
      · have : t = j := by omega
        rw [this] at hpos ⊢; exact h3 hpos
    · have : j = xs.length := by omega
      subst this
      exact ⟨n0, rfl, hn0, hmax, e2⟩
  rintro n w2 ⟨n0, rfl, hn0, hmax, e2⟩
  have hs := hs.ext e2
  have e := e1.trans e2
  refine bnd_wi (by omega) (by omega) (mk_u64 (N := n0 + 2) (by omega) (by omega) fun o w3 ho hon e3 hbk => ?_)
  have hterm : ∀ t, t < xs.length → xs.getD t 0 * W64 ^ (r * t) < W64 ^ n0 := fun t ht => by
    rcases Nat.eq_zero_or_pos (xs.getD t 0) with h | h
    · rw [h, Nat.zero_mul]; exact Nat.pow_pos (by decide)
    · refine Nat.lt_of_lt_of_le (Nat.mul_lt_mul_of_pos_right (lt_sz _) (Nat.pow_pos (by decide))) ?_
      rw [← Nat.pow_add]
      exact Nat.pow_le_pow_right (by decide) (by have := hmax t ht h; omega)
  have htot : ∀ i, i ≤ xs.length → vl (W64 ^ r) (xs.take i) < W64 ^ (n0 + 1) := fun i hi => by
    refine Nat.lt_of_le_of_lt (vl_take_le hterm i hi) ?_
    rw [Nat.pow_succ, Nat.mul_comm]
    exact Nat.mul_lt_mul_of_pos_left (by rw [w64]; omega) (Nat.pow_pos (by decide))
  refine j0 (fun w5 => ∃ P : List Nat, vl W64 P = vl (W64 ^ r) xs ∧ Ow w5 w2.w.heap.size o P ∧ Ext none_ w2 w5) ?_ ?_
  · refine lp1 (fun m (i : Int) w5 => ∃ (j : Nat) (P : List Nat), i = j ∧ m = xs.length - j ∧ j ≤ xs.length ∧ P.length = n0 + 2 ∧ vl W64 P = vl (W64 ^ r) (xs.take j) ∧ Ow w5 w2.w.heap.size o P ∧ Ext none_ w2 w5) xs.length ⟨0, _, rfl, by omega, by omega, by simp, by rw [vl_zeros]; simp [vl_nil], ho, e3⟩ ?_
    rintro m i w5 ⟨j, P, rfl, rfl, hj, hP, hv, ho, e5⟩
    refine cnd_d (fun h0 => ?_) (fun h0 => ?_)
    · have hj1 : j < xs.length := by omega
      have hrj := hri j hj1
      have hxj := hx j
      refine hs.idxE e5 rfl hj1 fun t ht => ?_
      obtain ⟨tl, ht, htl⟩ := ht
      refine c1 (limb_trim (ht.ext e5)) ?_
      rintro t' w6 e6 rfl
      have ht := ht.trim
      rw [htl] at ht ⊢
      generalize ht' : t.cut 0 (sz (xs.getD j 0)) 1 = t' at *
      have e5 := e5.trans e6
      have ho := ho.ext e6
      have lt' := ht.len
      rw [dg_len] at lt'
      clear e6
      have hstep := vl_take_getD (W64 ^ r) xs j
      rw [pow_w] at hstep
      have htj := htot (j + 1) hj1
      have hmaxj := hmax j hj1
      refine j0 (fun w7 => ∃ P : List Nat, P.length = n0 + 2 ∧ vl W64 P = vl (W64 ^ r) (xs.take (j + 1)) ∧ Ow w7 w2.w.heap.size o P ∧ Ext none_ w2 w7) ?_ ?_
      · refine lp2 (fun m (c i : Int) w7 => ∃ (p d : Nat) (P : List Nat), c = d ∧ i = p ∧ m = n0 + 2 - p ∧ d ≤ 1 ∧ P.length = n0 + 2 ∧ vl W64 P + W64 ^ (r * j + p) * d = vl (W64 ^ r) (xs.take j) + vl W64 ((dg W64 (xs.getD j 0)).take p) * W64 ^ (r * j) ∧ Ow w7 w2.w.heap.size o P ∧ Ext none_ w2 w7) (n0 + 2) ⟨0, 0, P, rfl, rfl, rfl, by omega, hP, by simp [vl_nil, hv], ho, e5⟩ ?_
        rintro m c i w7 ⟨p, d, P, rfl, rfl, rfl, hd, hP, hv, ho, e5⟩
        refine j1 (fun (b : Bool) w8 => w8 = w7 ∧ b = decide (p < sz (xs.getD j 0) ∨ 0 < d)) ?_ ?_
        · refine cnd_d (fun h1 => ⟨rfl, ?_⟩) (fun h1 => ⟨rfl, ?_⟩)
          · rw [eq_comm, decide_eq_true_iff]; left; omega
          · rw [Bool.eq_iff_iff, decide_eq_true_iff, decide_eq_true_iff]; omega
        rintro b w8 ⟨rfl, rfl⟩
        refine cnd_d (fun h1 => ?_) (fun h1 => ?_)
        · have hp : r * j + p < n0 + 1 := by
            rcases Nat.lt_or_ge p (sz (xs.getD j 0)) with h | h
            · have := hmaxj (by have := (not_congr (sz_zero (x := xs.getD j 0))).1 (by omega); omega)
              omega
            · have hd1 : d = 1 := by omega
              subst hd1
              rw [vl_take_all (l := dg W64 (xs.getD j 0)) (by rw [dg_len]; exact h), vl_dg W2, Nat.mul_comm (xs.getD j 0), ← hstep] at hv
              refine (Nat.pow_lt_pow_iff_right (a := W64) (by decide)).1 ?_
              omega
          refine (ht.ext e5).at0 rfl ?_
          have hy := ht.lt p
          have hgo := vl_take_getD W64 (dg W64 (xs.getD j 0)) p
          generalize (dg W64 (xs.getD j 0)).getD p 0 = y at *
          have hrjw : wi ((r : Int) * (j : Int)) = (r * j : Nat) := wi_mul (by omega)
          refine bnd_eq hrjw (bnd_wi (by omega) (by omega) (bnd_eq hrjw (bnd_wi (by omega) (by omega) ?_)))
          have hpP : r * j + p < P.length := by omega
          have hV1 := ho.rd.lt (r * j + p)
          refine ho.rd.ix (j := r * j + p) (by omega) hpP ?_
          have hset := vl_set (b := W64) hpP
          rw [show P[r * j + p] = P.getD (r * j + p) 0 by simp [hpP]] at hset
          generalize P.getD (r * j + p) 0 = V at *
          refine ⟨V, y, d, rfl, rfl, rfl, hd, ?_⟩
          refine ho.store (j := r * j + p) (by omega) hpP (Nat.mod_lt _ (by decide)) rfl fun w9 ho9 e9 => ?_
          refine bnd_wi (by omega) (by omega) ⟨n0 + 2 - (p + 1), by omega, p + 1, _, _, rfl, by omega, rfl, by omega, by simp [hP], ?_, ho9, e5.own e9 ho.blk_le⟩
          · have := hset ((V + y + d) % 18446744073709551616)
            have hdm := Nat.mod_add_div (V + y + d) 18446744073709551616
            generalize (V + y + d) % 18446744073709551616 = s1 at *
            generalize (V + y + d) / 18446744073709551616 = c1 at *
            rw [hgo, ← Nat.add_assoc, Nat.pow_succ]
            have e1 : W64 ^ (r * j + p) = W64 ^ (r * j) * W64 ^ p := Nat.pow_add _ _ _
            have e2 : W64 ^ (r * j + p) * s1 + W64 ^ (r * j + p) * W64 * c1 = W64 ^ (r * j + p) * (V + y + d) := by rw [← hdm]; grind
            grind
        · have hd0 : d = 0 := by omega
          subst hd0
          refine ⟨P, hP, ?_, ho, e5⟩
          rw [vl_take_all (l := dg W64 (xs.getD j 0)) (by rw [dg_len]; omega), vl_dg W2, Nat.mul_comm (xs.getD j 0), ← hstep] at hv
          simpa using hv
      · rintro w7 ⟨P, hP, hv, ho, e7⟩
        exact bnd_wi (by omega) (by omega) ⟨xs.length - (j + 1), by omega, j + 1, P, by omega, rfl, hj1, hP, hv, ho, e7⟩
    · have : j = xs.length := by omega
      subst this
      rw [List.take_of_length_le (Nat.le_refl _)] at hv
      exact ⟨P, hv, ho, e5⟩
  · rintro w5 ⟨P, hv, ho, e5⟩
    refine trO ho fun s' w7 e7 h7 => rt1 (c := .slice) _ ((e.trans e5).trans e7) ?_
    rw [hv] at h7
    exact (h7.less e.size).at
end Go.Proofs.Ythhohfgpaihngaa.Zg
