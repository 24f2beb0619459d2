/- A part of the proofs of this seat's laws: words, lemmas or contracts of its functions. -/
import Derived.Test.YthhohfgpaihngaaZgQ3
set_option linter.unusedVariables false
set_option linter.unusedSimpArgs false
set_option linter.unnecessarySimpa false
namespace Go.Proofs.Ythhohfgpaihngaa.Zg
open Go.RowKit

theorem mulrow_step {p M L L' v a b c s1 c' A Q : Nat} (h1 : s1 + M * c' = v + a * b + c) (hL : L' + p * v = L + p * s1) (hi : L + p * c = A + Q * a) : L' + p * M * c' = A + (Q + p * b) * a := by
  have : p * s1 + p * (M * c') = p * v + p * (a * b) + p * c := by rw [← Nat.mul_add, h1]; grind
  grind

theorem getD_set_ne {l : List Nat} {i k x : Nat} (h : i ≠ k) : (l.set i x).getD k 0 = l.getD k 0 := by simp [h]

theorem ref_Mul {w : TW} {s t : Sl} {x y : Nat} (hs : Dr w s x) (ht : Dr w t y) (hx : dz x ≤ 274877906944) (hy : dz y ≤ 274877906944) : Ct Pg F.zigguratref02_Mul [s.v, t.v] w none_ [.one .slice] fun (s' : Sl) w' => Dn w' w.w.heap.size s' (x * y) := by
  refine Ct.zigguratref02_Mul ?_
  unfold Sh.zigguratref02_Mul
  have ls := hs.len
  have lt := ht.len
  have hs := hs.here
  have ht := ht.here
  refine bnd_wi (by omega) (by omega) (mk_u64 (N := dz x + dz y) (by omega) (by omega) fun o w1 ho _ e1 _ => ?_)
  refine j0 (fun w2 => ∃ P, Ow w2 w.here.w.heap.size o P ∧ Sm B32 P ∧ vl B32 P = x * y ∧ Ext none_ w.here w2) ?_ ?_
  · refine lp1 (fun m (i : Int) w2 => ∃ (j : Nat) (P : List Nat), i = j ∧ m = dz x - j ∧ j ≤ dz x ∧ P.length = dz x + dz y ∧ Ow w2 w.here.w.heap.size o P ∧ Sm B32 P ∧ vl B32 P = vl B32 ((dg B32 x).take j) * y ∧ (∀ k, j + dz y ≤ k → P.getD k 0 = 0) ∧ Ext none_ w.here w2) (dz x) ⟨0, _, rfl, by omega, by omega, by simp, ho, Sm.zeros (by decide) _, by rw [vl_zeros]; simp [vl_nil], fun k _ => by simp [List.getElem?_replicate]; split <;> rfl, e1⟩ ?_
    rintro m i w2 ⟨j, P, rfl, rfl, hj, hP, ho, hsm, hv, hz, e2⟩
    refine cnd_d (fun h => ?_) (fun h => ?_)
    · have ha := hs.lt j
      have hgo := vl_take_getD B32 (dg B32 x) j
      have hj1 : j < (dg B32 x).length := by rw [dz_eq]; omega
      refine j1 (fun (c : Int) w3 => ∃ (P : List Nat) (d : Nat), c = d ∧ d < B32 ∧ P.length = dz x + dz y ∧ Ow w3 w.here.w.heap.size o P ∧ Sm B32 P ∧ vl B32 P + B32 ^ (j + dz y) * d = vl B32 ((dg B32 x).take (j + 1)) * y ∧ (∀ k, j + dz y ≤ k → P.getD k 0 = 0) ∧ Ext none_ w.here w3) ?_ ?_
      · refine lp2 (fun m (c i : Int) w3 => ∃ (q d : Nat) (P : List Nat), c = d ∧ i = q ∧ m = dz y - q ∧ q ≤ dz y ∧ d < B32 ∧ P.length = dz x + dz y ∧ Ow w3 w.here.w.heap.size o P ∧ Sm B32 P ∧ vl B32 P + B32 ^ (j + q) * d = vl B32 ((dg B32 x).take j) * y + B32 ^ j * vl B32 ((dg B32 y).take q) * (dg B32 x).getD j 0 ∧ (∀ k, j + dz y ≤ k → P.getD k 0 = 0) ∧ Ext none_ w.here w3) (dz y) ⟨0, 0, P, rfl, rfl, by omega, by omega, by decide, hP, ho, hsm, by rw [hv]; simp [vl_nil], hz, e2⟩ ?_
        clear ho hsm hv hz e2 hP P
        rintro m c i w3 ⟨q, d, P, rfl, rfl, rfl, hq, hd, hP, ho, hsm, hv, hz, e3⟩
        refine cnd_d (fun h1 => ?_) (fun h1 => ?_)
        · have hb := ht.lt q
          have hgb := vl_take_getD B32 (dg B32 y) q
          have hjq : j + q < P.length := by omega
          have hpv := hsm.getD (by decide) (j + q)
          refine bnd_wi (by omega) (by omega) (ho.rd.drew.ix (j := j + q) (by omega) hjq ?_)
          refine (Rd.ext hs e3).drew.ix rfl hj1 ((Rd.ext ht e3).drew.ix rfl (by rw [dz_eq]; omega) ?_)
          have hset := vl_set (b := B32) hjq
          rw [show P[j + q] = P.getD (j + q) 0 by simp [hjq]] at hset
          generalize P.getD (j + q) 0 = v at *
          generalize (dg B32 x).getD j 0 = a at *
          generalize (dg B32 y).getD q 0 = b at *
          rw [b32] at hd hpv
          have hab : a * b ≤ 4294967295 * 4294967295 := Nat.mul_le_mul (by omega) (by omega)
          refine bnd_wu' (y := a * b) (by simp) (by rw [w64]; omega) (bnd_wu' (y := v + a * b) (by simp) (by rw [w64]; omega) (bnd_wu' (y := v + a * b + d) (by simp) (by rw [w64]; omega) (bnd_wi (by omega) (by omega) ?_)))
          refine remN (x := v + a * b + d) (y := 4294967296) rfl rfl (by decide) ?_
          have hm : (v + a * b + d) % 4294967296 < B32 := Nat.mod_lt _ (by decide)
          refine ho.drew.store (j := j + q) (by omega) hjq (bw hm) rfl fun w4 ho4 e4 => ?_
          refine divNu (x := v + a * b + d) (y := 4294967296) rfl rfl (by rw [w64]; omega) (by decide) ?_
          refine bnd_wi (by omega) (by omega) ⟨dz y - (q + 1), by omega, q + 1, _, _, rfl, by omega, rfl, by omega, by rw [b32]; omega, by simp [hP], ho4, hsm.set _ hm, ?_, fun k hk => ?_, e3.drew.own e4 ho.blk_le⟩
          · have hdm := Nat.mod_add_div (v + a * b + d) 4294967296
            have hset := hset ((v + a * b + d) % 4294967296)
            rw [← Nat.add_assoc, Nat.pow_succ, hgb, Nat.mul_add, ← Nat.mul_assoc, ← Nat.pow_add]
            exact mulrow_step hdm hset hv
          · exact (getD_set_ne (by omega)).trans (hz k hk)
        · have : q = dz y := by omega
          subst this
          refine ⟨P, d, rfl, hd, hP, ho, hsm, ?_, hz, e3⟩
          rw [vl_take_all (l := dg B32 y) (by rw [dz_eq]; exact Nat.le_refl _), vl_dg b2] at hv
          rw [hv, hgo]
          grind
      · clear ho hsm hv hz e2 hP P
        rintro c w3 ⟨P, d, rfl, hd, hP, ho, hsm, hv, hz, e3⟩
        have hjq : j + dz y < P.length := by omega
        refine bnd_wi (by omega) (by omega) (ho.store (j := j + dz y) (by omega) hjq (bw hd) rfl fun w4 ho4 e4 => ?_)
        refine bnd_wi (by omega) (by omega) ⟨dz x - (j + 1), by omega, j + 1, _, by omega, rfl, by omega, by simp [hP], ho4, hsm.set _ hd, ?_, fun k hk => ?_, e3.own e4 ho.blk_le⟩
        · have hset := vl_set (b := B32) hjq d
          have h0 := hz _ (Nat.le_refl _)
          rw [show P[j + dz y] = P.getD (j + dz y) 0 by simp [hjq], h0, Nat.mul_zero, Nat.add_zero] at hset
          rw [hset, hv]
        · exact (getD_set_ne (by omega)).trans (hz k (by omega))
    · have : j = dz x := by omega
      subst this
      rw [vl_take_all (l := dg B32 x) (by rw [dz_eq]; exact Nat.le_refl _), vl_dg b2] at hv
      exact ⟨P, ho, hsm, hv, e2⟩
  · rintro w2 ⟨P, ho, hsm, hv, e2⟩
    refine nm ho hsm fun s' w' e' h' => rt1 (c := .slice) _ (e2.trans e') ?_
    rw [hv] at h'
    exact h'.at

/-- A slice of slices of words. -/
def Rl (w : TW) (s : Sl) (ls : List (List Nat)) : Prop := ∃ ss : List Sl, Rdv w 1 s (ss.map Sl.v) ∧ ss.length = ls.length ∧ ∀ i t, ss[i]? = some t → Rd w t (ls.getD i [])
theorem Rl.rs {w : TW} {s : Sl} {ls : List (List Nat)} (h : Rl w s ls) : Rs w s (ls.map (vl W64)) := by
  obtain ⟨ss, h1, h2, h3⟩ := h
  refine ⟨ss, h1, by simpa using h2, fun i t ht => ⟨_, h3 i t ht, ?_⟩⟩
  have : i < ls.length := by
    have := (List.getElem?_eq_some_iff.1 ht).1
    omega
  simp [this]
theorem Rl.len {w : TW} {s : Sl} {ls : List (List Nat)} (h : Rl w s ls) : s.n = ls.length := by have := h.rs.len; simpa using this
theorem Rl.here {w : TW} {s : Sl} {ls : List (List Nat)} (h : Rl w s ls) : Rl w.here s ls := h.imp fun _ h => ⟨h.1, h.2.1, fun i t ht => (h.2.2 i t ht).here⟩
theorem Rl.drew {w : TW} {s : Sl} {ls : List (List Nat)} (h : Rl w s ls) : Rl w.drew s ls := h.imp fun _ h => ⟨h.1, h.2.1, fun i t ht => (h.2.2 i t ht).drew⟩
theorem Rl.ext {w w' : TW} {s : Sl} {ls : List (List Nat)} (h : Rl w s ls) (hx : Ext none_ w w') : Rl w' s ls := h.imp fun _ h => ⟨h.1.ext hx fun _ _ h => h, h.2.1, fun i t ht => (h.2.2 i t ht).ext hx⟩
theorem Rl.idx {w w' : TW} {s : Sl} {ls : List (List Nat)} (h : Rl w s ls) (hx : Ext none_ w w') {i : Int} {j : Nat} (hi : i = j) (hj : j < ls.length) {K : Addr → Sl → Prop} (hK : ∀ a t, (∀ w'', Ext none_ w w'' → w''.w.cell? a = some t.v) → Rd w t (ls.getD j []) → K a t) : ixa s i 1 (fun a => ldc .slice w' a (K a)) := by
  subst hi
  have hl := h.len
  obtain ⟨ss, h0, h5, h6⟩ := h
  have hjs : j < ss.length := by omega
  have hne : ss.map Sl.v ≠ [] := fun e => by have := congrArg List.length e; simp at this; subst this; simp at hjs
  obtain ⟨b, o, hp, _, hc⟩ := h0.2.2.2 hne
  have key : ∀ w'', Ext none_ w w'' → w''.w.cell? ((⟨b, o, none⟩ : Addr).add (j * 1)) = some (ss[j].v) := fun w'' e' => by
    obtain ⟨b', o', hp', _, hc⟩ := (h0.ext e' fun _ _ h => h).2.2.2 hne
    rw [hp] at hp'
    injection hp' with hp'
    injection hp' with h1 h2
    subst h1 h2
    rw [Nat.mul_one, Addr.add_mk]
    exact hc j _ (by simp [hjs])
  exact ⟨⟨b, o, none⟩, hp, by omega, by omega, ss[j], key w' hx, hK _ _ key (h6 j _ (by simp [hjs]))⟩

theorem sum_take (xs : List Nat) (j : Nat) : (xs.take (j + 1)).sum = (xs.take j).sum + xs.getD j 0 := by
  rcases Nat.lt_or_ge j xs.length with h | h
  · rw [List.take_add_one, List.getElem?_eq_getElem h, List.sum_append]; simp [h]
  · rw [List.take_of_length_le (by omega), List.take_of_length_le h, getD_past h]; rfl
theorem getD_map_vl {ls : List (List Nat)} (j : Nat) : (ls.map (vl W64)).getD j 0 = vl W64 (ls.getD j []) := by
  rcases Nat.lt_or_ge j ls.length with h | h
  · simp [h]
  · simp [h, vl]

theorem sum_lt {xs : List Nat} {k : Nat} (h : ∀ x ∈ xs, x < W64 ^ k) : xs.sum ≤ xs.length * W64 ^ k := by
  induction xs with
  | nil => simp
  | cons x xs ih =>
    have h1 := ih fun y hy => h y (List.mem_cons_of_mem _ hy)
    have h2 := h x (List.mem_cons_self ..)
    simp only [List.sum_cons, List.length_cons, Nat.succ_mul]
    omega

theorem ref_Sum {w : TW} {s : Sl} {ls : List (List Nat)} {k : Nat} (hs : Rl w s ls) (hn : ls.length ≤ 1048576) (hk : k ≤ 1048576) (hx : ∀ l ∈ ls, l.length ≤ k) (hsm : ∀ l ∈ ls, Sm W64 l) : Ct Pg F.zigguratref02_Sum [s.v] w none_ [.one .slice] fun (s' : Sl) w' => Dn w' w.w.heap.size s' (ls.map (vl W64)).sum := by
  refine Ct.zigguratref02_Sum ?_
  unfold Sh.zigguratref02_Sum
  have lls := hs.len
  have hs := hs.here
  have hbound : ∀ j, dz ((ls.map (vl W64)).take j).sum ≤ 2 * (k + 1) := fun j => by
    refine Nat.le_trans (dz_sz _) (Nat.mul_le_mul_left _ (sz_pow ?_))
    refine Nat.lt_of_le_of_lt (sum_lt (k := k) fun x hx1 => ?_) ?_
    · obtain ⟨l, hl, rfl⟩ := List.mem_map.1 (List.mem_of_mem_take hx1)
      exact Nat.lt_of_lt_of_le (vl_lt (hsm l hl)) (Nat.pow_le_pow_right (by decide) (hx l hl))
    · rw [Nat.pow_succ, Nat.mul_comm]
      exact Nat.mul_lt_mul_of_pos_left (by rw [w64]; simp; omega) (Nat.pow_pos (by decide))
  refine j1 (fun (o : Sl) w2 => Dn w2 w.here.w.heap.size o (ls.map (vl W64)).sum ∧ Ext none_ w.here w2) ?_ ?_
  · refine lp2 (fun m (o : Sl) (i : Int) w2 => ∃ j : Nat, i = j ∧ m = ls.length - j ∧ j ≤ ls.length ∧ Dn w2 w.here.w.heap.size o ((ls.map (vl W64)).take j).sum ∧ Ext none_ w.here w2) ls.length ⟨0, rfl, by omega, by omega, by simpa using Dn.nil _ _, Ext.refl _ _⟩ ?_
    rintro m o i w2 ⟨j, rfl, rfl, hj, ho, e2⟩
    refine cnd_d (fun h => ?_) (fun h => ?_)
    · have hj1 : j < ls.length := by omega
      refine hs.idx e2 rfl hj1 fun a t _ ht => ?_
      have hmem : ls.getD j [] ∈ ls := by simp [hj1]
      have hlen := hx _ hmem
      have htn := ht.len
      refine c1 (ref_From (ht.ext e2).nt (by omega)) ?_
      intro s1 w3 e3 h3
      refine c1 (ref_Add (ho.ext e3).dr h3.dr (by have := hbound j; omega) ?_) ?_
      · refine Nat.le_trans (dz_sz _) ?_
        have := sz_vl (hsm _ hmem)
        omega
      intro s2 w4 e4 h4
      have e := (e2.trans e3).trans e4
      refine bnd_wi (by omega) (by omega) ⟨ls.length - (j + 1), by omega, j + 1, by omega, rfl, hj1, ?_, e⟩
      rw [sum_take, getD_map_vl]
      exact h4.less (e2.trans e3).size
    · have : j = ls.length := by omega
      subst this
      rw [List.take_of_length_le (by simp)] at ho
      exact ⟨ho, e2⟩
  · rintro o w2 ⟨ho, e2⟩
    exact rt1 (c := .slice) _ e2 ho.at

theorem dz_mul (x y : Nat) : dz (x * y) ≤ dz x + dz y := by
  refine dz_pow ?_
  rw [Nat.pow_add]
  exact Nat.mul_lt_mul'' (dz_lt x) (dz_lt y)
theorem dz_powN (x n : Nat) : dz (x ^ n) ≤ n * dz x + 1 := by
  induction n with
  | zero => simpa using dz_pow (x := 1) (k := 1) (by decide)
  | succ n ih => rw [Nat.pow_succ, Nat.succ_mul]; have := dz_mul (x ^ n) x; omega

theorem ref_Pow {w : TW} {s : Sl} {x : Nat} {n : Int} (hs : Dr w s x) (hn : n ≤ 65536) (hx : dz x ≤ 1048576) : Ct Pg F.zigguratref02_Pow [s.v, .int .i64 n] w none_ [.one .slice] fun (s' : Sl) w' => Dn w' w.w.heap.size s' (x ^ n.toNat) := by
  refine Ct.zigguratref02_Pow ?_
  unfold Sh.zigguratref02_Pow
  refine c1 (ref_Small (y := 1) (by decide)) ?_
  intro s1 w1 e1 h1
  have hs := hs.here
  refine j1 (fun (o : Sl) w2 => Dn w2 w.here.w.heap.size o (x ^ n.toNat) ∧ Ext none_ w.here w2) ?_ ?_
  · refine lp2 (fun m (o : Sl) (i : Int) w2 => ∃ j : Nat, i = j ∧ m = n.toNat - j ∧ j ≤ n.toNat ∧ Dn w2 w.here.w.heap.size o (x ^ j) ∧ Ext none_ w.here w2) n.toNat ⟨0, rfl, by omega, by omega, by simpa using h1, e1⟩ ?_
    rintro m o i w2 ⟨j, rfl, rfl, hj, ho, e2⟩
    refine cnd_d (fun h => ?_) (fun h => ?_)
    · have hb : dz (x ^ j) ≤ 65536 * 1048576 + 1 := Nat.le_trans (dz_powN x j) (Nat.add_le_add_right (Nat.mul_le_mul (by omega) hx) 1)
      refine c1 (ref_Mul ho.dr (hs.ext e2) (by omega) (by omega)) ?_
      intro s2 w3 e3 h3
      exact bnd_wi (by omega) (by omega) ⟨n.toNat - (j + 1), by omega, j + 1, by omega, rfl, by omega, by rw [Nat.pow_succ]; exact h3.less e2.size, e2.trans e3⟩
    · have : j = n.toNat := by omega
      subst this
      exact ⟨ho, e2⟩
  · rintro o w2 ⟨ho, e2⟩
    exact rt1 (c := .slice) _ e2 ho.at
end Go.Proofs.Ythhohfgpaihngaa.Zg
