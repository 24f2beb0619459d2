/- A part of the proofs of this seat's laws: words, lemmas or contracts of its functions. -/
import Derived.Test.YthhohfgpaihngaaZgX
import Derived.Test.YthhohfgpaihngaaZgV
set_option linter.unusedVariables false
set_option linter.unusedSimpArgs false
set_option linter.unnecessarySimpa false
namespace Go.Proofs.Ythhohfgpaihngaa.Zg
open Go.RowKit

/-- The base of words. -/
abbrev W64 : Nat := 18446744073709551616
theorem W2 : 2 ≤ W64 := by decide

abbrev U (x : Nat) : Value := .int .u64 x

/-! ### The words of a printed function -/
theorem bnd_i {α : Type} {x : α} {K : α → Prop} (h : K x) : bnd x K := h
theorem wi_id {x : Int} (h1 : -9223372036854775808 ≤ x) (h2 : x ≤ 9223372036854775807) : wi x = x := by rw [wi, IntKind.wrap_i64]; omega
theorem bnd_wi {x : Int} {K : Int → Prop} (h1 : -9223372036854775808 ≤ x) (h2 : x ≤ 9223372036854775807) (h : K x) : bnd (wi x) K := by
  unfold bnd; rw [wi_id h1 h2]; exact h
theorem wu_nat (x : Nat) : wu (x : Int) = ((x % W64 : Nat) : Int) := by
  simp [wu, IntKind.wrap, IntKind.signed, IntKind.bits, W64]
theorem wu_id {x : Nat} (h : x < W64) : wu (x : Int) = x := by rw [wu_nat, Nat.mod_eq_of_lt h]
theorem bnd_wu {x : Int} {y : Nat} {K : Int → Prop} (hx : x = y) (h : K (y % W64 : Nat)) : bnd (wu x) K := by
  unfold bnd; rw [hx, wu_nat]; exact h
theorem bnd_wu' {x : Int} {y : Nat} {K : Int → Prop} (hx : x = y) (hy : y < W64) (h : K y) : bnd (wu x) K := by
  unfold bnd; rw [hx, wu_id hy]; exact h
theorem nck_some {a : Addr} {K : Addr → Prop} (h : K a) : nck (some a) K := h
theorem cnd_i {c : Bool} {A B : Prop} (h1 : c = true → A) (h2 : c = false → B) : cond c A B := by
  cases c
  · exact h2 rfl
  · exact h1 rfl
theorem cnd_d {p : Prop} [Decidable p] {A B : Prop} (h1 : p → A) (h2 : ¬ p → B) : cond (decide p) A B := by
  by_cases h : p
  · simp [h, h1 h]
  · simp [h, h2 h]
theorem cnd_t {c : Bool} {A B : Prop} (h : c = true) (hA : A) : cond c A B := by subst h; exact hA
theorem cnd_f {c : Bool} {A B : Prop} (h : c = false) (hB : B) : cond c A B := by subst h; exact hB

theorem jn {cs : List CK} {A : Tel cs (TW → Prop) → Prop} {K : Tel cs (TW → Prop)} (J : Tel cs (TW → Prop)) (h1 : A J) (h2 : allT cs (lam cs fun x => ∀ w, app cs J x w → app cs K x w)) : Jn cs A K := ⟨J, h1, h2⟩
/-- No cut: the rest is walked on each way. -/
theorem jn_all {cs : List CK} {A : Tel cs (TW → Prop) → Prop} {K : Tel cs (TW → Prop)} (h : A K) : Jn cs A K := ⟨K, h, (allT_lam _ _).2 fun _ _ h => h⟩

theorem lp1 {c1 : CK} {body : Tel [c1] (TW → (Tel [c1] (TW → Prop)) → Prop)} {x1 : CV c1} {w : TW} (I : Nat → CV c1 → TW → Prop) (m : Nat) (h0 : I m x1 w)
    (hs : ∀ m x1 w, I m x1 w → body x1 w (fun y1 w' => ∃ m', m' < m ∧ I m' y1 w')) : Lp [c1] body x1 w := ⟨I, ⟨m, h0⟩, hs⟩
theorem lp2 {c1 c2 : CK} {body : Tel [c1, c2] (TW → (Tel [c1, c2] (TW → Prop)) → Prop)} {x1 : CV c1} {x2 : CV c2} {w : TW} (I : Nat → CV c1 → CV c2 → TW → Prop) (m : Nat) (h0 : I m x1 x2 w)
    (hs : ∀ m x1 x2 w, I m x1 x2 w → body x1 x2 w (fun y1 y2 w' => ∃ m', m' < m ∧ I m' y1 y2 w')) : Lp [c1, c2] body x1 x2 w := ⟨I, ⟨m, h0⟩, hs⟩
theorem lp3 {c1 c2 c3 : CK} {body : Tel [c1, c2, c3] (TW → (Tel [c1, c2, c3] (TW → Prop)) → Prop)} {x1 : CV c1} {x2 : CV c2} {x3 : CV c3} {w : TW} (I : Nat → CV c1 → CV c2 → CV c3 → TW → Prop) (m : Nat) (h0 : I m x1 x2 x3 w)
    (hs : ∀ m x1 x2 x3 w, I m x1 x2 x3 w → body x1 x2 x3 w (fun y1 y2 y3 w' => ∃ m', m' < m ∧ I m' y1 y2 y3 w')) : Lp [c1, c2, c3] body x1 x2 x3 w := ⟨I, ⟨m, h0⟩, hs⟩
theorem lp4 {c1 c2 c3 c4 : CK} {body : Tel [c1, c2, c3, c4] (TW → (Tel [c1, c2, c3, c4] (TW → Prop)) → Prop)} {x1 : CV c1} {x2 : CV c2} {x3 : CV c3} {x4 : CV c4} {w : TW} (I : Nat → CV c1 → CV c2 → CV c3 → CV c4 → TW → Prop) (m : Nat) (h0 : I m x1 x2 x3 x4 w)
    (hs : ∀ m x1 x2 x3 x4 w, I m x1 x2 x3 x4 w → body x1 x2 x3 x4 w (fun y1 y2 y3 y4 w' => ∃ m', m' < m ∧ I m' y1 y2 y3 y4 w')) : Lp [c1, c2, c3, c4] body x1 x2 x3 x4 w := ⟨I, ⟨m, h0⟩, hs⟩

/-! ### Ends -/
theorem rt0 {X : Nat → Prop} {K : TW → Prop} {w T' : TW} (hx : Ext X w.here T') (hK : K (T'.at w.B)) : Rt X [] K w (.tuple #[]) T' := ⟨(), rfl, hx, hK⟩
theorem rt1 {X : Nat → Prop} {c : CK} {K : CV c → TW → Prop} {w T' : TW} (x : CV c) (hx : Ext X w.here T') (hK : K x (T'.at w.B)) : Rt X [.one c] K w (CV.enc c x) T' := ⟨(x, ()), rfl, hx, hK⟩
theorem rt2 {X : Nat → Prop} {c d : CK} {K : CV c → CV d → TW → Prop} {w T' : TW} (x : CV c) (y : CV d) (hx : Ext X w.here T') (hK : K x y (T'.at w.B)) : Rt X [.one c, .one d] K w (.tuple #[CV.enc c x, CV.enc d y]) T' := ⟨(x, y, ()), rfl, hx, hK⟩
theorem rt3 {X : Nat → Prop} {c d e : CK} {K : CV c → CV d → CV e → TW → Prop} {w T' : TW} (x : CV c) (y : CV d) (z : CV e) (hx : Ext X w.here T') (hK : K x y z (T'.at w.B)) : Rt X [.one c, .one d, .one e] K w (.tuple #[CV.enc c x, CV.enc d y, CV.enc e z]) T' := ⟨(x, y, z, ()), rfl, hx, hK⟩

/-! ### Rows of words that are read -/
structure Rd (w : TW) (s : Sl) (l : List Nat) : Prop where
  rv : Rdv w 1 s (l.map U)
  sm : Sm W64 l

theorem Rdv.ext {w w' : TW} {X : Nat → Prop} {sz : Nat} {s : Sl} {vs : List Value} (h : Rdv w sz s vs) (hx : Ext X w w') (hX : ∀ b, s.blk = some b → ¬ X b) : Rdv w' sz s vs := by
  obtain ⟨h1, h2, h3, h4⟩ := h
  refine ⟨h1, h2, h3, fun hne => ?_⟩
  obtain ⟨b, o, hp, hV, hc⟩ := h4 hne
  have hb : s.blk = some b := by simp [Sl.blk, hp]
  have hlt : b < w.w.heap.size := by
    obtain ⟨v, hv⟩ : ∃ v, vs[0]? = some v := ⟨vs[0]'(List.length_pos_iff.2 hne), List.getElem?_eq_getElem _⟩
    exact World.block_lt_of_cell? w.w _ (hc 0 v hv)
  refine ⟨b, o, hp, fun hV' => ?_, fun j v hj => ?_⟩
  · rcases hx.new b hV' with h | h
    · exact hV h
    · omega
  · rw [← hc j v hj]
    exact World.cell?_of_block (hx.block b hlt (hX b hb) (.inr hV))

theorem Rd.extX {w w' : TW} {X : Nat → Prop} {s : Sl} {l : List Nat} (h : Rd w s l) (hx : Ext X w w') (hX : ∀ b, s.blk = some b → ¬ X b) : Rd w' s l := ⟨h.rv.ext hx hX, h.sm⟩
theorem Rd.ext {w w' : TW} {s : Sl} {l : List Nat} (h : Rd w s l) (hx : Ext none_ w w') : Rd w' s l := h.extX hx fun _ _ h => h
theorem Rd.drew {w : TW} {s : Sl} {l : List Nat} (h : Rd w s l) : Rd w.drew s l := ⟨h.rv, h.sm⟩
theorem Rd.here {w : TW} {s : Sl} {l : List Nat} (h : Rd w s l) : Rd w.here s l := ⟨h.rv, h.sm⟩
theorem Ext.drew {X : Nat → Prop} {w0 w : TW} (h : Ext X w0 w) : Ext X w0 w.drew := ⟨h.os, h.tape, h.output, h.size, h.floor, h.sub, h.new, h.block, h.shape⟩
theorem Rd.len {w : TW} {s : Sl} {l : List Nat} (h : Rd w s l) : s.n = l.length := by have := h.rv.1; simp at this; omega
theorem Rd.cap {w : TW} {s : Sl} {l : List Nat} (h : Rd w s l) : l.length ≤ s.c ∧ s.c ≤ 9223372036854775807 := by
  have h1 := h.rv.2.1
  have h2 := h.rv.2.2.1
  simp only [maxLen] at h2
  rw [h.len] at h1
  omega
theorem Rd.le {w : TW} {s : Sl} {l : List Nat} (h : Rd w s l) : l.length ≤ 9223372036854775807 := by have := h.cap; omega
theorem Rd.nil (w : TW) : Rd w Sl.nil [] := ⟨⟨rfl, Nat.le_refl _, by decide, fun h => absurd rfl h⟩, Sm.nil _⟩

/-- a[i], read. -/
theorem Rd.idx {w : TW} {s : Sl} {l : List Nat} (h : Rd w s l) {i : Int} {j : Nat} (hi : i = j) (hj : j < l.length) {K : Int → Prop} (hK : K (l[j] : Nat)) : ixa s i 1 (fun a => ldc (.int .u64) w a K) := by
  subst hi
  obtain ⟨h1, _, _, h4⟩ := h.rv
  obtain ⟨b, o, hp, _, hc⟩ := h4 (fun e => by have := congrArg List.length e; simp at this; subst this; simp at hj)
  refine ⟨⟨b, o, none⟩, hp, by omega, by have := h.len; omega, (l[j] : Nat), ?_, hK⟩
  rw [Int.toNat_natCast, Nat.mul_one, Addr.add_mk]
  exact hc j (U l[j]) (by simp [hj])

/-- s[lo:hi] within the length. -/
theorem Rd.cut {w : TW} {s : Sl} {l : List Nat} (h : Rd w s l) {lo hi : Nat} (h1 : lo ≤ hi) (h2 : hi ≤ l.length) : Rd w (s.cut lo hi 1) ((l.take hi).drop lo) := by
  have hl := h.len
  have hc := h.cap
  obtain ⟨h3, h4, h5, h6⟩ := h.rv
  refine ⟨⟨by simp [Sl.cut]; omega, by simp only [Sl.cut]; omega, by simp only [Sl.cut]; omega, fun hne => ?_⟩, (h.sm.take hi).drop lo⟩
  have hlt : lo < hi := by
    rcases Nat.lt_or_ge lo hi with h | h
    · exact h
    · exfalso; apply hne; simp; omega
  obtain ⟨b, o, hp, hV, hcell⟩ := h6 (fun e => by have := congrArg List.length e; simp at this; subst this; simp at h2; omega)
  refine ⟨b, o + lo, ?_, hV, fun j v hj => ?_⟩
  · simp only [Sl.cut]
    rw [if_neg (by omega), hp]
    simp [Addr.add_mk]
  · rw [Nat.add_assoc]
    refine hcell (lo + j) v ?_
    simp only [List.map_drop, List.map_take, List.getElem?_drop, List.getElem?_take] at hj
    split at hj
    · exact hj
    · cases hj

/-! ### Rows of words that are one's own -/
structure Ow (w : TW) (B : Nat) (s : Sl) (l : List Nat) : Prop where
  ow : Own w B T.uint64 1 s (l.map U)
  sm : Sm W64 l

theorem Own.form {w : TW} {B : Nat} {e : TypeId} {sz : Nat} {s : Sl} {vs : List Value} (h : Own w B e sz s vs) : (s = Sl.nil ∧ vs = []) ∨ ∃ b cur, s.p = some ⟨b, 0, none⟩ ∧ B ≤ b ∧ w.w.heap[b]? = some (.cells cur e (0, 0)) ∧ s.n ≤ s.c ∧ s.c ≤ maxLen ∧ cur.size = s.c * sz ∧ cur.toList.take (s.n * sz) = vs ∧ ¬ w.V b := by
  obtain ⟨⟨h1, h2⟩, h3⟩ := h
  rcases h2 with ⟨hv, hn⟩ | ⟨g, cap, cur, hv, hb, hg, hnc, hcm, hcs, ht⟩
  · simp only [Sl.v, Value.slice.injEq] at hv
    refine .inl ⟨?_, ?_⟩
    · cases s; simp only at hv; simp [hv]
    · rw [hn] at h1; simpa using h1
  · simp only [Sl.v, Value.slice.injEq] at hv
    obtain ⟨hp, -, rfl⟩ := hv
    exact .inr ⟨g, cur, hp, hb, hg, hnc, hcm, hcs, ht, h3 g (by simp [Sl.blk, hp])⟩

theorem Own.rdv {w : TW} {B : Nat} {e : TypeId} {sz : Nat} {s : Sl} {vs : List Value} (h : Own w B e sz s vs) : Rdv w sz s vs := by
  have h1 := h.1.1
  rcases h.form with ⟨rfl, rfl⟩ | ⟨b, cur, hp, hb, hg, hnc, hcm, hcs, ht, hV⟩
  · exact ⟨by simp, Nat.le_refl _, by decide, fun h => absurd rfl h⟩
  · refine ⟨h1, hnc, hcm, fun _ => ⟨b, 0, hp, hV, fun j v hj => ?_⟩⟩
    rw [cell_of_row w.w b (0 + j) cur e (0, 0) hg, Nat.zero_add]
    rw [← ht, List.getElem?_take] at hj
    split at hj
    · simpa using hj
    · cases hj

theorem Ow.rd {w : TW} {B : Nat} {s : Sl} {l : List Nat} (h : Ow w B s l) : Rd w s l := ⟨h.ow.rdv, h.sm⟩

theorem Own.ext {w w' : TW} {X : Nat → Prop} {B : Nat} {e : TypeId} {sz : Nat} {s : Sl} {vs : List Value} (h : Own w B e sz s vs) (hx : Ext X w w') (hX : ∀ b, s.blk = some b → ¬ X b) : Own w' B e sz s vs := by
  obtain ⟨⟨h1, h2⟩, h3⟩ := h
  have hlt : ∀ b, s.blk = some b → b < w.w.heap.size := fun b hb => by
    rcases h2 with ⟨hv, _⟩ | ⟨g, cap, cur, hv, _, hg, _⟩
    · simp only [Sl.v, Value.slice.injEq] at hv; simp [Sl.blk, hv.1] at hb
    · simp only [Sl.v, Value.slice.injEq] at hv; simp [Sl.blk, hv.1] at hb; subst hb; exact (Array.getElem?_eq_some_iff.1 hg).1
  refine ⟨⟨h1, ?_⟩, fun b hb hV' => ?_⟩
  · rcases h2 with hn | ⟨g, cap, cur, hv, hB, hg, rest⟩
    · exact .inl hn
    · have hv' := hv
      simp only [Sl.v, Value.slice.injEq] at hv'
      have hbk : s.blk = some g := by simp [Sl.blk, hv'.1]
      exact .inr ⟨g, cap, cur, hv, hB, (hx.block g (hlt g hbk) (hX g hbk) (.inr (h3 g hbk))).trans hg, rest⟩
  · rcases hx.new b hV' with h | h
    · exact h3 b hb h
    · have := hlt b hb; omega

theorem Ow.extX {w w' : TW} {X : Nat → Prop} {B : Nat} {s : Sl} {l : List Nat} (h : Ow w B s l) (hx : Ext X w w') (hX : ∀ b, s.blk = some b → ¬ X b) : Ow w' B s l := ⟨h.ow.ext hx hX, h.sm⟩
theorem Ow.ext {w w' : TW} {B : Nat} {s : Sl} {l : List Nat} (h : Ow w B s l) (hx : Ext none_ w w') : Ow w' B s l := h.extX hx fun _ _ h => h
theorem Ow.from_ {w : TW} {B : Nat} {s : Sl} {l : List Nat} (h : Ow w B s l) : ∀ b, s.blk = some b → B ≤ b ∧ b < w.w.heap.size := fun b hb => by
  rcases h.ow.form with ⟨rfl, _⟩ | ⟨g, cur, hp, hB, hg, _⟩
  · simp [Sl.blk] at hb
  · simp [Sl.blk, hp] at hb; subst hb; exact ⟨hB, (Array.getElem?_eq_some_iff.1 hg).1⟩
theorem Ow.less {w : TW} {B B' : Nat} {s : Sl} {l : List Nat} (h : Ow w B s l) (hB : B' ≤ B) : Ow w B' s l := by
  obtain ⟨⟨⟨h1, h2⟩, h3⟩, h4⟩ := h
  refine ⟨⟨⟨h1, ?_⟩, h3⟩, h4⟩
  rcases h2 with h2 | ⟨g, cap, cur, hv, hb, r⟩
  · exact .inl h2
  · exact .inr ⟨g, cap, cur, hv, Nat.le_trans hB hb, r⟩

/-- What is written into one's own blocks alone leaves the world of the beginning as it was. -/
theorem Ext.mine {X : Nat → Prop} {w0 w w' : TW} (h : Ext none_ w0 w) (k : Ext X w w') (hX : ∀ b, X b → w0.w.heap.size ≤ b) : Ext none_ w0 w' :=
  (h.mono (Y := X) fun _ _ h => h.elim).trans k |>.mono fun b hb hx => absurd (hX b hx) (by omega)

/-- make([]uint64, n). -/
theorem mk_u64 {w : TW} {n : Int} {N : Nat} {K : Sl → TW → Prop} (hn : n = N) (hN : N ≤ 17592186044416) (h : ∀ s w', Ow w' w.w.heap.size s (List.replicate N 0) → s.n = N → Ext none_ w w' → s.blk = some w.w.heap.size → K s w') : mks w n n T.uint64 8 [.int .u64 0] K := by
  subst hn
  refine ⟨by omega, Int.le_refl _, by omega, by omega, fun b w' hnew => h _ _ ⟨⟨⟨by simp, .inr ⟨b, N, (List.replicate N [Value.int .u64 0]).flatten.toArray, by simp, by have := hnew.at_; omega, by simpa using hnew.heap, Nat.le_refl _, by simp only [maxLen]; omega, by simp, ?_⟩⟩, ?_⟩, Sm.zeros (by decide) N⟩ (by simp) (hnew.ext _) (by simp [Sl.blk, hnew.at_])⟩
  · have : (List.replicate N [Value.int .u64 0]).flatten = List.replicate N (Value.int .u64 0) := by
      induction N with
      | zero => rfl
      | succ N _ => simp [List.replicate_succ]
    simp [this]
  · intro c hc hV
    simp [Sl.blk] at hc
    rw [hnew.V] at hV
    have := w.lt _ hV
    have := hnew.at_
    omega

/-- s[i] = x, s one's own. -/
theorem Ow.store {w : TW} {B : Nat} {s : Sl} {l : List Nat} (h : Ow w B s l) {i : Int} {j x : Nat} (hi : i = j) (hj : j < l.length) (hx : x < W64) {y : Int} (hy : y = x) {K : TW → Prop}
    (hK : ∀ w', Ow w' B s (l.set j x) → Ext (fun b => s.blk = some b) w w' → K w') : ixa s i 1 (fun a => stc w a (.int .u64 y) K) := by
  subst hi; subst hy
  have hlen := h.rd.len
  rcases h.ow.form with ⟨hs, hv⟩ | ⟨b, cur, hp, hB, hg, hnc, hcm, hcs, ht, hV⟩
  · have := congrArg List.length hv; simp at this; subst this; simp at hj
  · have hcur : j < cur.size := by omega
    refine ⟨⟨b, 0, none⟩, hp, by omega, by omega, ?_⟩
    rw [Int.toNat_natCast, Nat.mul_one, Addr.add_mk, Nat.zero_add]
    have hcell : w.w.cell? ⟨b, j, none⟩ = some cur[j] := by rw [cell_of_row w.w b j cur T.uint64 (0, 0) hg, Array.getElem?_eq_getElem hcur]
    have hset : (w.w.setCell ⟨b, j, none⟩ (U x)).heap[b]? = some (.cells (cur.set j (U x) hcur) T.uint64 (0, 0)) := by
      simp [World.setCell, Array.getElem?_modify, hg, Array.setIfInBounds, hcur]
    have hbk : s.blk = some b := by simp [Sl.blk, hp]
    refine ⟨⟨_, hcell⟩, by simp [World.frozen?, hg], hV, hK _ ⟨⟨⟨by simpa using hlen.symm, .inr ⟨b, s.c, _, by simp [hp], hB, hset, hnc, hcm, by simpa using hcs, ?_⟩⟩, fun c hc => by rw [hbk] at hc; injection hc with hc; subst hc; exact hV⟩, h.sm.set j hx⟩ ?_⟩
    · rw [Array.toList_set, List.take_set, ht, List.map_set]
    · refine ⟨rfl, rfl, rfl, by simp [TW.set, World.setCell], rfl, fun _ h => h, fun _ h => .inl h, fun k hk hX _ => Below.heap_setCell w.w _ _ k (fun e => hX (by rw [hbk, e])), fun k hk => setCell_shape _ _ _ _⟩
end Go.Proofs.Ythhohfgpaihngaa.Zg
