/- A part of the proofs of this seat's laws: words, lemmas or contracts of its functions. -/
import Derived.Test.YthhohfgpaihngaaZgK9
import Derived.Test.YthhohfgpaihngaaZgPzigguratkeep
set_option linter.unusedVariables false
set_option linter.unusedSimpArgs false
set_option linter.unnecessarySimpa false
namespace Go.Proofs.Ythhohfgpaihngaa.Zg
open Go.RowKit

theorem add_block (a : Addr) (n : Nat) : (a.add n).block = a.block := by unfold Addr.add; split <;> rfl

/-! ### New rows -/
theorem nw_rs {w : TW} {e : TypeId} {ss : List Sl} {xs : List Nat} {K : Nat → TW → Prop} (k : Nat) (hk : ss.length = k) (hl : ss.length = xs.length) (hn : k ≤ 1099511627776) (h : ∀ i t, ss[i]? = some t → Nt w t (xs.getD i 0)) (hK : ∀ b w', Rs w' ⟨some ⟨b, 0, none⟩, k, k⟩ xs → Ext none_ w w' → K b w') : nwb w (ss.map Sl.v) e K := by
  subst hk
  intro b w' hw
  refine hK b w' ⟨ss, ⟨by simp, Nat.le_refl _, by simp only [maxLen]; omega, fun _ => ⟨b, 0, rfl, fun hV => ?_, fun j v hj => ?_⟩⟩, hl, fun i t ht => (h i t ht).ext (hw.ext _)⟩ (hw.ext _)
  · rw [hw.V] at hV
    have := w.lt _ hV
    have := hw.at_
    omega
  · rw [cell_of_row w'.w b (0 + j) _ e (0, 0) hw.heap]
    simpa using hj

theorem nw_u64s {w : TW} {l : List Nat} {K : Nat → TW → Prop} (k : Nat) (hk : l.length = k) (hs : Sm W64 l) (hn : k ≤ 1099511627776) (hK : ∀ b w', Ow w' w.w.heap.size ⟨some ⟨b, 0, none⟩, k, k⟩ l → Ext none_ w w' → K b w') : nwb w (l.map U) T.uint64 K := by
  subst hk
  intro b w' hw
  refine hK b w' ⟨⟨⟨by simp, .inr ⟨b, l.length, (l.map U).toArray, rfl, by have := hw.at_; omega, hw.heap, Nat.le_refl _, by simp only [maxLen]; omega, by simp, ?_⟩⟩, fun c hc hV => ?_⟩, hs⟩ (hw.ext _)
  · rw [List.take_of_length_le (by simp)]
  · simp [Sl.blk] at hc
    rw [hw.V] at hV
    have := w.lt _ hV
    have := hw.at_
    omega

/-- make([]uint64, l, c). -/
theorem mk_cap {w : TW} {l c : Int} {n m : Nat} {K : Sl → TW → Prop} (hl : l = n) (hc : c = m) (hnm : n ≤ m) (hm : m ≤ 17592186044416) (h : ∀ f w', Ow w' w.w.heap.size f (List.replicate m 0) → f.n = m → f.c = m → Ext none_ w w' → f.blk = some w.w.heap.size → K (f.cut 0 n 1) w') : mks w l c T.uint64 8 [.int .u64 0] K := by
  subst hl hc
  obtain ⟨_, _, h3, h4, h5⟩ := mk_u64 (w := w) (K := fun f w' => Ow w' w.w.heap.size f (List.replicate m 0) ∧ f.n = m ∧ Ext none_ w w' ∧ f.blk = some w.w.heap.size) rfl hm fun s w' a b c d => ⟨a, b, c, d⟩
  refine ⟨by omega, by omega, h3, h4, fun b w' hw => ?_⟩
  obtain ⟨a1, a2, a3, a4⟩ := h5 b w' hw
  have := h _ w' a1 a2 (by simp) a3 a4
  simpa [Sl.cut, Addr.add_mk] using this

theorem cpy_cut {w : TW} {B : Nat} {f d s : Sl} {l m : List Nat} (h : Ow w B f l) (hdp : d.p = f.p) (hdn : d.n ≤ f.n) (k : Rd w s m) (hle : m.length = d.n) {K : Int → TW → Prop}
    (hK : ∀ w', Ow w' B f (m ++ l.drop m.length) → Ext (fun b => f.blk = some b) w w' → K (m.length : Nat) w') : cpy w T.uint64 d s K := by
  have hd := h.rd.len
  have hs := k.len
  have hmin : min s.n d.n = m.length := by omega
  rcases h.ow.form with ⟨rfl, hv⟩ | ⟨b, cur, hp, hB, hg, hnc, hcm, hcs, ht, hV⟩
  · have hl : l = [] := by simpa using hv
    subst hl
    have h0 : d.n ≤ 0 := hdn
    have hm : m = [] := List.length_eq_zero_iff.1 (by omega)
    subst hm
    exact .inl ⟨by simpa using hmin, by simpa using hK w (by simpa using h) (Ext.refl _ _)⟩
  · refine .inr ⟨m.map U, b, 0, cur, k.rv, map_u_one m, hdp.trans hp, hV, hg, by omega, fun w' hw hx => ?_⟩
    rw [hmin]
    have hbk : f.blk = some b := by simp [Sl.blk, hp]
    refine hK w' ⟨⟨⟨by simp; omega, .inr ⟨b, f.c, _, by simp [hp], hB, hw, hnc, hcm, ?_, ?_⟩⟩, fun c hc hV' => ?_⟩, k.sm.append (h.sm.drop _)⟩ (hx.mono fun k _ e => by subst e; exact hbk)
    · simp [splice]; omega
    · rw [Nat.mul_one] at ht ⊢
      have hlen : cur.toList.length = f.c := by simpa using hcs
      have e : List.map U (m ++ l.drop m.length) = m.map U ++ (cur.toList.take f.n).drop m.length := by rw [ht]; simp
      rw [e]
      simp only [splice, List.take_zero, List.nil_append, Nat.zero_add]
      rw [hmin, List.take_of_length_le (by simp : (m.map U).length ≤ m.length), List.take_append]
      simp only [List.length_map]
      rw [List.take_of_length_le (by simp; omega), List.drop_take]
    · rw [hbk] at hc; cases hc
      rcases hx.new b hV' with h | h
      · exact hV h
      · have := (Array.getElem?_eq_some_iff.1 hg).1; omega

theorem limb_Sum {w : TW} {s : Sl} {xs : List Nat} (hs : Rs w s xs) (hn : xs.length ≤ 1048576) (hx : ∀ t, sz (xs.getD t 0) ≤ 549755813888) : Ct Pg F.limb_Sum [s.v] w none_ [.one .slice] fun (s' : Sl) w' => On w' w.w.heap.size s' xs.sum := by
  refine Ct.limb_Sum ?_
  unfold Sh.limb_Sum
  refine c1 (limb_Join hs.here hn hx) ?_
  intro s' w' e h
  have e1 : ∀ l : List Nat, vl 1 l = l.sum := fun l => by
    induction l with
    | nil => rfl
    | cons x l ih => simp [vl_cons, ih]
  have h := h.at (k := w.B)
  rw [show min (0 : Int).toNat 16384 = 0 by rfl, Nat.pow_zero, e1] at h
  exact rt1 (c := .slice) _ e h

/-! ### The keeper -/
theorem Rd.take {w : TW} {s : Sl} {l : List Nat} (h : Rd w s l) (k : Nat) : Rd w (s.cut 0 (min k s.n) 1) (l.take k) := by
  have hl := h.len
  have := h.cut (Nat.zero_le (min k s.n)) (by omega)
  rw [List.drop_zero] at this
  rwa [show l.take k = l.take (min k s.n) by rw [hl, ← List.take_take, List.take_of_length_le (Nat.le_refl l.length)]]

theorem keep_Cut {w : TW} {s : Sl} {l : List Nat} {n : Nat} (h : Rd w s l) : Ct Pg F.zigguratkeep_Cut [s.v, .int .i64 n] w none_ [.one .slice] fun (s' : Sl) _ => s' = s.cut 0 (min n s.n) 1 := by
  refine Ct.zigguratkeep_Cut ?_
  unfold Sh.zigguratkeep_Cut
  have hc := h.cap
  have hl := h.len
  refine bnd_i (slc_of (l := 0) (h := min n s.n) rfl ?_ (Nat.zero_le _) (by omega) ?_)
  · split <;> omega
  · exact rt1 (c := .slice) _ (Ext.refl _ _) rfl
/-- A call of Cut. -/
theorem cutc {w : TW} {s : Sl} {l : List Nat} {n : Nat} {N : Int} {K : Sl → TW → Prop} (h : Rd w s l) (hN : N = n) (hK : ∀ s' w', Ext none_ w w' → Rd w' s' (l.take n) → (∀ b, s'.blk = some b → s.blk = some b) → K s' w') : cl Pg F.zigguratkeep_Cut [s.v, .int .i64 N] w [.one .slice] K := by
  subst hN
  refine c1 (keep_Cut h) ?_
  rintro s' w' e rfl
  refine hK _ _ e ((h.take n).ext e) fun b hb => ?_
  simp only [Sl.blk, Sl.cut] at hb ⊢
  split at hb
  · exact hb
  · cases hp : s.p with
    | none => simp [hp] at hb
    | some a => simp [hp] at hb; simpa using (add_block a 0).symm.trans hb

theorem keep_Within {w : TW} {v n : Int} (hn : 0 < n) (hn2 : n ≤ 4611686018427387904) : Ct Pg F.zigguratkeep_Within [.int .i64 v, .int .i64 n] w none_ [.one (.int .i64)] fun (r : Int) _ => 0 ≤ r ∧ r < n := by
  refine Ct.zigguratkeep_Within ?_
  unfold Sh.zigguratkeep_Within
  refine cnd_d (fun h => by omega) (fun _ => ⟨by omega, ?_⟩)
  have h1 := Int.tmod_lt_of_pos v hn
  have h2 : -n < v.tmod n := by
    have := Int.tmod_lt_of_pos (-v) hn
    rw [Int.neg_tmod] at this
    omega
  generalize v.tmod n = r at *
  refine j1 (fun (r : Int) w' => w' = w.here ∧ 0 ≤ r ∧ r < n) ?_ ?_
  · refine cnd_d (fun h => ?_) (fun h => ?_)
    · exact bnd_wi (by omega) (by omega) ⟨rfl, by omega, by omega⟩
    · exact ⟨rfl, by omega, by omega⟩
  rintro r w' ⟨rfl, h⟩
  exact rt1 (c := .int .i64) _ (Ext.refl _ _) h

theorem keep_Same {w : TW} {s t : Sl} {l : List Nat} (hs : Rd w s l) (ht : Rd w t l) : Ct Pg F.zigguratkeep_Same [s.v, t.v] w none_ [.one .bool] fun (r : Bool) _ => r = true := by
  refine Ct.zigguratkeep_Same ?_
  unfold Sh.zigguratkeep_Same
  have h1 := hs.len
  have h2 := ht.len
  have hc := hs.le
  refine cnd_f (by simp; omega) ?_
  refine j0 (fun w' => Ext none_ w.here w') ?_ fun w' e => rt1 (c := .bool) _ e rfl
  refine lp1 (fun m (i : Int) w' => ∃ j : Nat, i = j ∧ m = l.length - j ∧ j ≤ l.length ∧ Ext none_ w.here w') l.length ⟨0, rfl, by omega, by omega, Ext.refl _ _⟩ ?_
  rintro m i w' ⟨j, rfl, rfl, hj, e⟩
  refine cnd_d (fun h => ?_) (fun _ => e)
  refine (hs.here.ext e).drew.ix rfl (by omega) ((ht.here.ext e).drew.ix rfl (by omega) (cnd_f (by simp) ?_))
  exact bnd_wi (by omega) (by omega) ⟨l.length - (j + 1), by omega, j + 1, by omega, rfl, by omega, e.drew⟩
end Go.Proofs.Ythhohfgpaihngaa.Zg
