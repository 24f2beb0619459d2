/- A part of the proofs of this seat's laws: words, lemmas or contracts of its functions. -/
import Derived.Test.YthhohfgpaihngaaZgQ4
set_option linter.unusedVariables false
set_option linter.unusedSimpArgs false
set_option linter.unnecessarySimpa false
namespace Go.Proofs.Ythhohfgpaihngaa.Zg
open Go.RowKit

abbrev Zw : Nat := 6148914691236517205
/-- A copy that was lent: its row, four words of spare room behind it. -/
def Lent (w : TW) (B : Nat) (s : Sl) (l : List Nat) : Prop := ∃ f : Sl, s = f.cut 0 l.length 1 ∧ Ow w B f (l ++ List.replicate 4 Zw) ∧ f.n = f.c

theorem add_zero_ (a : Addr) : a.add 0 = a := rfl
theorem cut0_p (f : Sl) (n : Nat) : (f.cut 0 n 1).p = f.p := by
  simp only [Sl.cut]
  split
  · rfl
  · cases h : f.p with
    | none => rfl
    | some a => simp [add_zero_]
theorem cut_back {f : Sl} (h : f.n = f.c) (k : Nat) : (f.cut 0 k 1).cut 0 f.n 1 = f := by
  have h1 : ((f.cut 0 k 1).cut 0 f.n 1).p = f.p := by rw [cut0_p, cut0_p]
  obtain ⟨p, n, c⟩ := f
  simp only at h
  subst h
  simp only [Sl.cut] at h1 ⊢
  simp only [Sl.mk.injEq]
  exact ⟨h1, by omega, by omega⟩
theorem Lent.ext {w w' : TW} {B : Nat} {s : Sl} {l : List Nat} (h : Lent w B s l) (hx : Ext none_ w w') : Lent w' B s l := h.imp fun _ h => ⟨h.1, h.2.1.ext hx, h.2.2⟩
theorem Lent.rd {w : TW} {B : Nat} {s : Sl} {l : List Nat} (h : Lent w B s l) : Rd w s l := by
  obtain ⟨f, rfl, h, _⟩ := h
  have := (h.cut0 (n := l.length) (by simp)).rd
  simpa using this
theorem Lent.nt {w : TW} {B : Nat} {s : Sl} {l : List Nat} (h : Lent w B s l) : Nt w s (vl W64 l) := h.rd.nt

theorem keep_Lend {w : TW} {a : Sl} {l : List Nat} (ha : Rd w a l) (hn : l.length ≤ 274877906944) : Ct Pg F.zigguratkeep_Lend [a.v] w none_ [.one .slice] fun (s' : Sl) w' => Lent w' w.w.heap.size s' l := by
  refine Ct.zigguratkeep_Lend ?_
  unfold Sh.zigguratkeep_Lend
  have la := ha.len
  have ha := ha.here
  refine bnd_wi (by omega) (by omega) (mk_cap (n := l.length) (m := l.length + 4) (by omega) (by omega) (by omega) (by omega) fun f w1 hf hfn hfc e1 _ => ?_)
  refine cpy_cut hf (cut0_p _ _) (by simp [Sl.cut]; omega) (ha.ext e1) (by simp [Sl.cut]) fun w2 hf e2 => ?_
  have e2 := e1.own e2 hf.blk_le
  refine bnd_wi (by omega) (by omega) (slc_of (l := 0) (h := l.length + 4) rfl (by omega) (Nat.zero_le _) (by simp [Sl.cut]; omega) ?_)
  rw [← hfn, cut_back (hfn.trans hfc.symm)]
  rw [List.drop_replicate, show l.length + 4 - l.length = 4 by omega] at hf
  refine j0 (fun w3 => Ow w3 w.here.w.heap.size f (l ++ List.replicate 4 Zw) ∧ Ext none_ w.here w3) ?_ ?_
  · refine lp1 (fun m (i : Int) w3 => ∃ j : Nat, i = (l.length + j : Nat) ∧ m = 4 - j ∧ j ≤ 4 ∧ Ow w3 w.here.w.heap.size f ((l ++ List.replicate j Zw) ++ List.replicate (4 - j) 0) ∧ Ext none_ w.here w3) 4 ⟨0, by omega, rfl, by omega, by simpa using hf, e2⟩ ?_
    rintro m i w3 ⟨j, rfl, rfl, hj, ho, e3⟩
    refine cnd_d (fun h => ?_) (fun h => ?_)
    · rw [show 4 - j = (4 - (j + 1)) + 1 by omega] at ho
      refine ho.put (by simp) (by decide : Zw < W64) rfl fun w4 ho4 e4 => ?_
      refine bnd_wi (by omega) (by omega) ⟨4 - (j + 1), by omega, j + 1, by omega, rfl, by omega, ?_, e3.own e4 ho.blk_le⟩
      rw [List.replicate_succ', ← List.append_assoc]
      exact ho4
    · have : j = 4 := by omega
      subst this
      exact ⟨by simpa using ho, e3⟩
  · rintro w3 ⟨ho, e3⟩
    exact rt1 (c := .slice) _ e3 ⟨f, rfl, ho.at, hfn.trans hfc.symm⟩

theorem keep_Intact {w : TW} {B : Nat} {s a : Sl} {l : List Nat} (hs : Lent w B s l) (ha : Rd w a l) (hn : l.length ≤ 274877906944) : Ct Pg F.zigguratkeep_Intact [s.v, a.v] w none_ [.one .bool] fun (r : Bool) _ => r = true := by
  obtain ⟨f, rfl, hf, hfc⟩ := hs
  refine Ct.zigguratkeep_Intact ?_
  unfold Sh.zigguratkeep_Intact
  have la := ha.len
  have lf := hf.rd.len
  simp only [List.length_append, List.length_replicate] at lf
  have ha := ha.here
  have hf := hf.here.rd
  have h1 : (f.cut 0 l.length 1).n = l.length := by simp [Sl.cut]
  have h2 : (f.cut 0 l.length 1).c = l.length + 4 := by simp [Sl.cut]; omega
  refine j1 (fun (b : Bool) w1 => b = false ∧ w1 = w.here) ?_ ?_
  · refine cnd_f (by simp [h1, la]) (bnd_wi (by omega) (by omega) ⟨?_, rfl⟩)
    simp [h2, la]
  rintro b w1 ⟨rfl, rfl⟩
  refine cnd_f rfl (bnd_wi (by omega) (by omega) (slc_of (l := 0) (h := f.n) rfl (by omega) (Nat.zero_le _) (by omega) ?_))
  rw [cut_back hfc]
  refine j0 (fun w' => Ext none_ w.here w') ?_ fun w' e => rt1 (c := .bool) _ e rfl
  refine lp1 (fun m (i : Int) w' => ∃ j : Nat, i = j ∧ m = l.length + 4 - j ∧ j ≤ l.length + 4 ∧ Ext none_ w.here w') (l.length + 4) ⟨0, rfl, by omega, by omega, Ext.refl _ _⟩ ?_
  rintro m i w' ⟨j, rfl, rfl, hj, e⟩
  refine cnd_d (fun h => ?_) (fun _ => e)
  have hj1 : j < (l ++ List.replicate 4 Zw).length := by simp; omega
  have hend : l.length ≤ j → (l ++ List.replicate 4 Zw).getD j 0 = Zw := fun h => by
    have : (l ++ List.replicate 4 Zw)[j]? = some Zw := by
      rw [List.getElem?_append_right h, List.getElem?_replicate, if_pos (by omega)]
    rw [List.getD_eq_getElem?_getD, this]; rfl
  have hbeg : j < l.length → (l ++ List.replicate 4 Zw).getD j 0 = l.getD j 0 := fun h => by simp [List.getElem?_append_left h]
  refine j1 (fun (b : Bool) w2 => b = false ∧ Ext none_ w.here w2) ?_ ?_
  · refine cnd_d (fun h3 => ?_) (fun h3 => ?_)
    · refine (hf.ext e).drew.ix rfl hj1 ((ha.ext e).drew.ix rfl (by omega) ?_)
      rw [hbeg (by omega)]
      exact cnd_f (by simp) (cnd_f (by simp; omega) ⟨rfl, e.drew⟩)
    · refine cnd_t (by simp; omega) ((hf.ext e).drew.ix rfl hj1 ?_)
      rw [hend (by omega)]
      exact ⟨by decide, e.drew⟩
  rintro b w2 ⟨rfl, e⟩
  exact cnd_f rfl (bnd_wi (by omega) (by omega) ⟨l.length + 4 - (j + 1), by omega, j + 1, by omega, rfl, by omega, e⟩)

theorem keep_Spoil {w : TW} {B : Nat} {a : Sl} {l : List Nat} (ha : Ow w B a l) : Ct Pg F.zigguratkeep_Spoil [a.v] w (fun b => a.blk = some b) [] fun _ => True := by
  refine Ct.zigguratkeep_Spoil ?_
  unfold Sh.zigguratkeep_Spoil
  refine slc_of (l := 0) (h := a.c) rfl rfl (Nat.zero_le _) (Nat.le_refl _) ?_
  have hp : (a.cut 0 a.c 1).p = a.p := cut0_p _ _
  have hn : (a.cut 0 a.c 1).n = a.c := by simp [Sl.cut]
  refine j0 (fun w' => Ext (fun b => a.blk = some b) w.here w') ?_ fun w' e => rt0 e trivial
  rcases ha.ow.form with ⟨rfl, hv⟩ | ⟨b, cur, hap, hB, hg, hnc, hcm, hcs, ht, hV⟩
  · refine lp1 (fun m (i : Int) w' => i = 0 ∧ w' = w.here) 0 ⟨rfl, rfl⟩ ?_
    rintro m i w' ⟨rfl, rfl⟩
    exact cnd_f (by simp [hn]) (Ext.refl _ _)
  · have hbk : a.blk = some b := by simp [Sl.blk, hap]
    have hlt := (Array.getElem?_eq_some_iff.1 hg).1
    simp only [maxLen] at hcm
    refine lp1 (fun m (i : Int) w' => ∃ j : Nat, ∃ cur : Array Value, i = j ∧ m = a.c - j ∧ j ≤ a.c ∧ w'.w.heap[b]? = some (.cells cur T.uint64 (0, 0)) ∧ cur.size = a.c ∧ Ext (fun b => a.blk = some b) w.here w') a.c ⟨0, cur, rfl, by omega, by omega, hg, by omega, Ext.refl _ _⟩ ?_
    rintro m i w' ⟨j, cur, rfl, rfl, hj, hg, hcs, e⟩
    refine cnd_d (fun h => ?_) (fun h => e)
    have hjc : j < cur.size := by omega
    refine ⟨⟨b, 0, none⟩, hp.trans hap, by omega, by omega, ?_⟩
    rw [Int.toNat_natCast, Nat.mul_one, Addr.add_mk, Nat.zero_add]
    have hVb : ¬ w'.V b := fun h => by
      rcases e.new b h with h | h
      · exact hV h
      · have : w.w.heap.size ≤ b := h
        omega
    refine ⟨⟨cur[j], by rw [cell_of_row w'.w b j cur T.uint64 (0, 0) hg, Array.getElem?_eq_getElem hjc]⟩, by simp [World.frozen?, hg], hVb, ?_⟩
    refine bnd_wi (by omega) (by omega) ⟨a.c - (j + 1), by omega, j + 1, cur.set j (.int .u64 8608480567731124087) hjc, by omega, rfl, by omega, ?_, by simpa using hcs, e.trans ?_⟩
    · simp [TW.set, World.setCell, Array.getElem?_modify, hg, Array.setIfInBounds, hjc]
    · exact ⟨rfl, rfl, rfl, by simp [TW.set, World.setCell], rfl, fun _ h => h, fun _ h => .inl h, fun k _ hX _ => Below.heap_setCell w'.w _ _ k (fun e => hX (by rw [hbk, e])), fun k _ => setCell_shape _ _ _ _⟩

/-- A call of Spoil, on what was made since w0. -/
theorem spl {w0 w : TW} {B : Nat} {s : Sl} {l : List Nat} {K : TW → Prop} (h : Ow w B s l) (e : Ext none_ w0 w) (hB : w0.w.heap.size ≤ B) (hK : ∀ w', Ext none_ w0 w' → Ext (fun b => s.blk = some b) w w' → K w') : cl Pg F.zigguratkeep_Spoil [s.v] w [] K := by
  refine cl_of (keep_Spoil h) (fun b hb => h.ow.2 b hb) ?_
  intro w' hx _
  exact hK w' (e.own hx fun b hb => Nat.le_trans hB (h.blk_le b hb)) hx

/-- append(s, t), a row of slices, s made since w0. -/
theorem pushS {w0 w : TW} {e : TypeId} {s t : Sl} {ss : List Sl} (h : Own w w0.w.heap.size e 1 s (ss.map Sl.v)) (ex : Ext none_ w0 w) (hn : ss.length + 1 ≤ 1099511627776) {K : Sl → TW → Prop}
    (hK : ∀ s' w', Own w' w0.w.heap.size e 1 s' ((ss ++ [t]).map Sl.v) → Ext none_ w0 w' → K s' w') : nwb w [t.v] e fun b w' => apd w' e 1 24 s ⟨some ⟨b, 0, none⟩, 1, 1⟩ K := by
  intro b w1 hw
  have e1 : Ext none_ w w1 := hw.ext _
  have h := h.ext e1 fun _ _ h => h
  have h1 := h.rdv.1
  simp only [List.length_map, Nat.mul_one] at h1
  have hle := Nat.le_trans ex.size e1.size
  refine ⟨w0.w.heap.size, ss.map Sl.v, [t.v], h, ⟨by simp, Nat.le_refl _, by show 1 ≤ maxLen; decide, fun _ => ⟨b, 0, rfl, fun hV => ?_, fun j v hj => ?_⟩⟩, hle, ?_, ?_, ?_, fun s' w' ho _ hx _ => hK s' w' (by simpa using ho) ?_⟩
  · rw [hw.V] at hV
    have := w.lt _ hV
    have := hw.at_
    omega
  · rw [cell_of_row w1.w b (0 + j) _ e (0, 0) hw.heap]
    simpa using hj
  · intro v hv
    simp at hv
    subst hv
    rfl
  · show s.n + 1 ≤ 9223372036854775807; omega
  · show (s.n + 1) * 24 ≤ _; omega
  · refine (ex.trans e1).own hx fun b hb => ?_
    rcases h.form with ⟨rfl, _⟩ | ⟨g, cur, hp, hB, _⟩
    · simp [Sl.blk] at hb
    · simp [Sl.blk, hp] at hb; omega
theorem Own.nil (w : TW) (B : Nat) (e : TypeId) : Own w B e 1 Sl.nil (([] : List Sl).map Sl.v) := ⟨⟨rfl, .inl ⟨rfl, rfl⟩⟩, fun b h => by simp [Sl.blk] at h⟩
theorem Rl.of {w0 w : TW} {B : Nat} {e : TypeId} {s : Sl} {ss : List Sl} {ls : List (List Nat)} (h : Own w B e 1 s (ss.map Sl.v)) (hx : Ext none_ w0 w) (hl : ss.length = ls.length) (hr : ∀ i t, ss[i]? = some t → Rd w0 t (ls.getD i [])) : Rl w s ls :=
  ⟨ss, h.rdv, hl, fun i t ht => (hr i t ht).ext hx⟩

theorem keep_Cuts {w : TW} {a : Sl} {ls : List (List Nat)} {k n : Nat} (ha : Rl w a ls) (hk : k ≤ 1048576) : Ct Pg F.zigguratkeep_Cuts [a.v, .int .i64 k, .int .i64 n] w none_ [.one .slice] fun (s' : Sl) w' => Rl w' s' ((ls.take k).map (List.take n)) := by
  refine Ct.zigguratkeep_Cuts ?_
  unfold Sh.zigguratkeep_Cuts
  have la := ha.len
  have ha := ha.here
  obtain ⟨N, hN⟩ : ∃ N, N = min k ls.length := ⟨_, rfl⟩
  refine j1 (fun (o : Sl) w2 => Rl w2 o ((ls.take k).map (List.take n)) ∧ Ext none_ w.here w2) ?_ ?_
  · refine lp2 (fun m (o : Sl) (i : Int) w2 => ∃ (j : Nat) (ss : List Sl), i = j ∧ m = N - j ∧ j ≤ N ∧ ss.length = j ∧ Own w2 w.here.w.heap.size T.s_uint64 1 o (ss.map Sl.v) ∧ (∀ i t, ss[i]? = some t → Rd w.here t ((ls.getD i []).take n)) ∧ Ext none_ w.here w2) N ⟨0, [], rfl, by omega, by omega, rfl, Own.nil _ _ _, fun i t h => by simp at h, Ext.refl _ _⟩ ?_
    rintro m o i w2 ⟨j, ss, rfl, rfl, hj, hss, ho, hr, e2⟩
    refine j1 (fun (b : Bool) w3 => w3 = w2 ∧ b = decide (j < N)) ?_ ?_
    · refine cnd_d (fun h => ⟨rfl, ?_⟩) (fun h => ⟨rfl, ?_⟩)
      · rw [Bool.eq_iff_iff, decide_eq_true_iff, decide_eq_true_iff]; omega
      · rw [Bool.eq_iff_iff, decide_eq_true_iff]; simp; omega
    rintro b w3 ⟨rfl, rfl⟩
    refine cnd_d (fun h => ?_) (fun h => ?_)
    · refine ha.idx e2 rfl (by omega) fun a1 t _ ht => ?_
      refine c1 (keep_Cut (n := n) (ht.ext e2)) ?_
      rintro t' w4 e4 rfl
      refine pushS (Own.ext ho e4 fun _ _ h => h) (e2.trans e4) (by omega) fun s' w5 ho5 e5 => ?_
      refine bnd_wi (by omega) (by omega) ⟨N - (j + 1), by omega, j + 1, _, by omega, rfl, by omega, by simp [hss], ho5, fun i t hi => ?_, e5⟩
      rcases Nat.lt_or_ge i ss.length with h1 | h1
      · rw [List.getElem?_append_left h1] at hi
        exact hr i t hi
      · rw [List.getElem?_append_right h1] at hi
        have h2 : i = ss.length := by
          have := (List.getElem?_eq_some_iff.1 hi).1
          simp at this; omega
        subst h2
        simp at hi
        subst hi
        rw [hss]
        exact ht.take n
    · refine ⟨Rl.of ho e2 ?_ fun i t hi => ?_, e2⟩
      · simp; omega
      · have := (List.getElem?_eq_some_iff.1 hi).1
        have h1 := hr i t hi
        have h2 : i < (ls.take k).length := by simp; omega
        have h3 : i < ls.length := by omega
        have h4 : ((ls.take k).map (List.take n)).getD i [] = (ls.getD i []).take n := by simp [show i < k by omega, h3]
        rw [h4]; exact h1
  · rintro o w2 ⟨ho, e2⟩
    refine rt1 (c := .slice) _ e2 (ho.imp fun _ h => ⟨h.1, h.2.1, fun i t ht => (h.2.2 i t ht).at_⟩)

theorem keep_Nats {w : TW} {a : Sl} {ls : List (List Nat)} (ha : Rl w a ls) (hn : ls.length ≤ 1048576) : Ct Pg F.zigguratkeep_Nats [a.v] w none_ [.one .slice] fun (s' : Sl) w' => Rl w' s' ls := by
  refine Ct.zigguratkeep_Nats ?_
  unfold Sh.zigguratkeep_Nats
  have la := ha.len
  have ha := ha.here
  refine j1 (fun (o : Sl) w2 => Rl w2 o ls ∧ Ext none_ w.here w2) ?_ ?_
  · refine lp2 (fun m (o : Sl) (i : Int) w2 => ∃ (j : Nat) (ss : List Sl), i = j ∧ m = ls.length - j ∧ j ≤ ls.length ∧ ss.length = j ∧ Own w2 w.here.w.heap.size T.api_Nat 1 o (ss.map Sl.v) ∧ (∀ i t, ss[i]? = some t → Rd w.here t (ls.getD i [])) ∧ Ext none_ w.here w2) ls.length ⟨0, [], rfl, by omega, by omega, rfl, Own.nil _ _ _, fun i t h => by simp at h, Ext.refl _ _⟩ ?_
    rintro m o i w2 ⟨j, ss, rfl, rfl, hj, hss, ho, hr, e2⟩
    refine cnd_d (fun h => ?_) (fun h => ?_)
    · refine ha.idx e2 rfl (by omega) fun a1 t _ ht => ?_
      refine pushS ho e2 (by omega) fun s' w5 ho5 e5 => ?_
      refine bnd_wi (by omega) (by omega) ⟨ls.length - (j + 1), by omega, j + 1, _, by omega, rfl, by omega, by simp [hss], ho5, fun i t hi => ?_, e5⟩
      rcases Nat.lt_or_ge i ss.length with h1 | h1
      · rw [List.getElem?_append_left h1] at hi
        exact hr i t hi
      · rw [List.getElem?_append_right h1] at hi
        have h2 : i = ss.length := by
          have := (List.getElem?_eq_some_iff.1 hi).1
          simp at this; omega
        subst h2
        simp at hi
        subst hi
        rw [hss]
        exact ht
    · exact ⟨Rl.of ho e2 (by omega) hr, e2⟩
  · rintro o w2 ⟨ho, e2⟩
    refine rt1 (c := .slice) _ e2 (ho.imp fun _ h => ⟨h.1, h.2.1, fun i t ht => (h.2.2 i t ht).at_⟩)
end Go.Proofs.Ythhohfgpaihngaa.Zg
