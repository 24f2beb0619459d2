/- A part of the proofs of this seat's laws: words, lemmas or contracts of its functions. -/
import Derived.Test.YticehedkalheiaaGreatDoorGKC
import Derived.Test.YticehedkalheiaaGreatDoorGP4
import Derived.Test.YticehedkalheiaaGreatDoorGQ
import Derived.Test.YticehedkalheiaaGreatDoorGP2
import Derived.Test.YticehedkalheiaaGreatDoorGP3
import Derived.Test.YticehedkalheiaaGreatDoorGA
import Derived.Test.YticehedkalheiaaGreatDoorGKA
import Derived.Test.YticehedkalheiaaGreatDoorGB
import Derived.Test.YticehedkalheiaaGreatDoorGK
import Derived.Test.YticehedkalheiaaGreatDoorGP
import Derived.Test.YticehedkalheiaaGreatDoorGP1
import Derived.Test.YticehedkalheiaaGreatDoorGS
import Derived.Test.YticehedkalheiaaGreatDoorGC
set_option linter.unusedVariables false
set_option linter.unusedSimpArgs false
set_option linter.unnecessarySimpa false
section
namespace Go.Proofs.YticehedkalheiaaGreatDoor.Zg
open Go.RowKit
/-- A whole number of the document's own: its digits, and whether it is below 0. -/
def Zr (w : TW) (s : Sl) (neg : Bool) (z : Int) : Prop := Dr w s z.natAbs ∧ neg = decide (z < 0)
theorem Zr.ext {w w' : TW} {s : Sl} {neg : Bool} {z : Int} (h : Zr w s neg z) (e : Ext none_ w w') : Zr w' s neg z := ⟨h.1.ext e, h.2⟩
theorem Zr.here {w : TW} {s : Sl} {neg : Bool} {z : Int} (h : Zr w s neg z) : Zr w.here s neg z := ⟨h.1.here, h.2⟩
theorem Zr.at {w : TW} {k : Nat} {s : Sl} {neg : Bool} {z : Int} (h : Zr w s neg z) : Zr (w.at k) s neg z := ⟨Rd.at_ h.1, h.2⟩
theorem ref17_Nat {w : TW} {s : Sl} {x : Nat} (h : Dr w s x) : Ct Pg F.zigguratref17_Nat [s.v] w none_ [.agg [.slice, .bool]] fun (s' : Sl) (neg : Bool) w' => Zr w' s' neg x := by
  refine Ct.zigguratref17_Nat ?_
  unfold Sh.zigguratref17_Nat
  intro w1 e1 w2 e2
  exact ⟨(s, false, ()), rfl, e1.trans e2, Zr.at ⟨((h.here.ext e1).ext e2), by simp⟩⟩
theorem ref17_made {w : TW} {s : Sl} {x : Nat} {neg : Bool} (h : Dr w s x) : Ct Pg F.zigguratref17_made [s.v, .bool neg] w none_ [.agg [.slice, .bool]] fun (s' : Sl) (neg' : Bool) w' => Zr w' s' neg' (if neg then -(x : Int) else x) ∧ s' = s := by
  refine Ct.zigguratref17_made ?_
  unfold Sh.zigguratref17_made
  intro w1 e1
  refine j2 (fun (s' : Sl) (neg' : Bool) w' => Zr w' s' neg' (if neg then -(x : Int) else x) ∧ Ext none_ w.here w' ∧ s' = s) ?_ ?_
  · cases neg with
    | true =>
      refine cnd_t rfl (c1 (ref_Zero (h.here.ext e1)) ?_)
      rintro r w2 e2 rfl
      intro w3 e3
      refine ⟨⟨?_, ?_⟩, (e1.trans e2).trans e3, rfl⟩
      · rw [if_pos rfl, Int.natAbs_neg, Int.natAbs_natCast]
        exact ((h.here.ext e1).ext e2).ext e3
      · rw [if_pos rfl]
        by_cases hx : x = 0
        · simp [hx]
        · simp [hx]; omega
    | false =>
      refine cnd_f rfl fun w2 e2 => ⟨⟨(h.here.ext e1).ext e2, by simp⟩, e1.trans e2, rfl⟩
  rintro s' neg' w' ⟨hz, e, he⟩
  exact ⟨(s', neg', ()), rfl, e, hz.at, he⟩
theorem ref17_Neg {w : TW} {s : Sl} {neg : Bool} {z : Int} (h : Zr w s neg z) : Ct Pg F.zigguratref17_Neg [.agg #[s.v, .bool neg]] w none_ [.agg [.slice, .bool]] fun (s' : Sl) (neg' : Bool) w' => Zr w' s' neg' (-z) := by
  refine Ct.zigguratref17_Neg ?_
  unfold Sh.zigguratref17_Neg
  intro w1 e1 w2 e2
  refine cl0 (ref17_made (neg := !neg) ((h.1.here.ext e1).ext e2)) ?_
  intro r r1 w3 e3 hr
  obtain ⟨hr, hrs⟩ := hr
  have hr : Zr w3 r r1 (if (!neg) then -(z.natAbs : Int) else z.natAbs) := hr
  intro w4 e4
  refine ⟨(r, r1, ()), rfl, ((e1.trans e2).trans e3).trans e4, ?_⟩
  have hz : (if (!neg) then -(z.natAbs : Int) else z.natAbs) = -z := by
    rw [h.2]
    by_cases h0 : z < 0
    · simp [h0]; omega
    · simp [h0]; omega
  rw [hz] at hr
  exact (hr.ext e4).at
theorem ref17_Add {w : TW} {a b : Sl} {na nb : Bool} {x y : Int} (ha : Zr w a na x) (hb : Zr w b nb y) (hx : dz x.natAbs ≤ 274877906944) (hy : dz y.natAbs ≤ 274877906944) : Ct Pg F.zigguratref17_Add [.agg #[a.v, .bool na], .agg #[b.v, .bool nb]] w none_ [.agg [.slice, .bool]] fun (s' : Sl) (neg' : Bool) w' => Zr w' s' neg' (x + y) ∧ ∀ c, s'.blk = some c → w.w.heap.size ≤ c := by
  refine Ct.zigguratref17_Add ?_
  unfold Sh.zigguratref17_Add
  intro w1 e1 w2 e2 w3 e3
  have e := (e1.trans e2).trans e3
  have ga := ha.1.here.ext e
  have gb := hb.1.here.ext e
  have na' := ha.2
  have nb' := hb.2
  clear e1 e2 e3
  refine cnd_i (fun h => ?_) (fun h => ?_)
  · have hab : na = nb := by simpa using h
    refine c1 (ref_Add (Dr.ext ga (Ext.refl _ _).drew) (Dr.ext gb (Ext.refl _ _).drew) hx hy) fun s w4 e4 h4 => ?_
    refine cl0 (ref17_made (neg := na) h4.dr) ?_
    intro r r1 w5 e5 hr
    obtain ⟨hr, hrs⟩ := hr
    have hr : Zr w5 r r1 (if na then -((x.natAbs + y.natAbs : Nat) : Int) else (x.natAbs + y.natAbs : Nat)) := hr
    intro w6 e6
    refine ⟨(r, r1, ()), rfl, ((e.drew.trans e4).trans e5).trans e6, ?_, fun c hc => by rw [hrs] at hc; exact Nat.le_trans e.size (Ow.blk_le h4 c hc)⟩
    have : (if na then -((x.natAbs + y.natAbs : Nat) : Int) else (x.natAbs + y.natAbs : Nat)) = x + y := by
      rw [nb'] at hab
      rw [na'] at hab ⊢
      by_cases h0 : x < 0
      · have : y < 0 := by simpa [h0] using hab
        simp [h0]; omega
      · have : ¬ y < 0 := by simpa [h0] using hab
        simp [h0]; omega
    rw [this] at hr
    exact (hr.ext e6).at
  · have hab : na ≠ nb := by simpa using h
    refine c1 (ref_Cmp ga gb) ?_
    rintro r w4 e4 rfl
    have hd : (decide (cmpN x.natAbs y.natAbs ≥ 0)) = decide (y.natAbs ≤ x.natAbs) := cmp_ge
    have ga := Dr.ext (ga.ext e4) (Ext.refl _ _).drew
    have gb := Dr.ext (gb.ext e4) (Ext.refl _ _).drew
    have e := (e.trans e4).drew
    by_cases hle : y.natAbs ≤ x.natAbs
    · refine cnd_t (by rw [hd]; simpa using hle) ?_
      refine c1 (ref_Sub ga gb hx hle) fun s w5 e5 h5 => ?_
      refine cl0 (ref17_made (neg := na) h5.dr) ?_
      intro r r1 w6 e6 hr
      obtain ⟨hr, hrs⟩ := hr
      have hr : Zr w6 r r1 (if na then -((x.natAbs - y.natAbs : Nat) : Int) else (x.natAbs - y.natAbs : Nat)) := hr
      intro w7 e7
      refine ⟨(r, r1, ()), rfl, ((e.trans e5).trans e6).trans e7, ?_, fun c hc => by rw [hrs] at hc; exact Nat.le_trans e.size (Ow.blk_le h5 c hc)⟩
      have : (if na then -((x.natAbs - y.natAbs : Nat) : Int) else (x.natAbs - y.natAbs : Nat)) = x + y := by
        rw [nb'] at hab
        rw [na'] at hab ⊢
        by_cases h0 : x < 0
        · have : ¬ y < 0 := by simpa [h0] using hab
          simp [h0]; omega
        · have : y < 0 := by simpa [h0] using hab
          simp [h0]; omega
      rw [this] at hr
      exact (hr.ext e7).at
    · refine cnd_f (by rw [hd]; simpa using hle) ?_
      refine c1 (ref_Sub gb ga hy (by omega)) fun s w5 e5 h5 => ?_
      refine cl0 (ref17_made (neg := nb) h5.dr) ?_
      intro r r1 w6 e6 hr
      obtain ⟨hr, hrs⟩ := hr
      have hr : Zr w6 r r1 (if nb then -((y.natAbs - x.natAbs : Nat) : Int) else (y.natAbs - x.natAbs : Nat)) := hr
      intro w7 e7
      refine ⟨(r, r1, ()), rfl, ((e.trans e5).trans e6).trans e7, ?_, fun c hc => by rw [hrs] at hc; exact Nat.le_trans e.size (Ow.blk_le h5 c hc)⟩
      have : (if nb then -((y.natAbs - x.natAbs : Nat) : Int) else (y.natAbs - x.natAbs : Nat)) = x + y := by
        rw [na'] at hab
        rw [nb'] at hab ⊢
        by_cases h0 : y < 0
        · have : ¬ x < 0 := by simpa [h0] using hab
          simp [h0]; omega
        · have : x < 0 := by simpa [h0] using hab
          simp [h0]; omega
      rw [this] at hr
      exact (hr.ext e7).at
theorem ref17_Sub {w : TW} {a b : Sl} {na nb : Bool} {x y : Int} (ha : Zr w a na x) (hb : Zr w b nb y) (hx : dz x.natAbs ≤ 274877906944) (hy : dz y.natAbs ≤ 274877906944) : Ct Pg F.zigguratref17_Sub [.agg #[a.v, .bool na], .agg #[b.v, .bool nb]] w none_ [.agg [.slice, .bool]] fun (s' : Sl) (neg' : Bool) w' => Zr w' s' neg' (x - y) ∧ ∀ c, s'.blk = some c → w.w.heap.size ≤ c := by
  refine Ct.zigguratref17_Sub ?_
  unfold Sh.zigguratref17_Sub
  intro w1 e1 w2 e2 w3 e3
  have e := ((e1.trans e2).trans e3).drew
  refine cl0 (ref17_Neg (hb.here.ext e)) ?_
  intro r r1 w4 e4 hr
  have hr : Zr w4 r r1 (-y) := hr
  refine cl0 (ref17_Add ((ha.here.ext e).ext e4) hr hx (by rwa [Int.natAbs_neg])) ?_
  intro q q1 w5 e5 hq
  obtain ⟨hq, hqf⟩ := hq
  have hq : Zr w5 q q1 (x + -y) := hq
  intro w6 e6
  exact ⟨(q, q1, ()), rfl, ((e.trans e4).trans e5).trans e6, (hq.ext e6).at, fun c hc => Nat.le_trans (e.trans e4).size (hqf c hc)⟩
theorem ref17_Mul {w : TW} {a b : Sl} {na nb : Bool} {x y : Int} (ha : Zr w a na x) (hb : Zr w b nb y) (hx : dz x.natAbs ≤ 274877906944) (hy : dz y.natAbs ≤ 274877906944) : Ct Pg F.zigguratref17_Mul [.agg #[a.v, .bool na], .agg #[b.v, .bool nb]] w none_ [.agg [.slice, .bool]] fun (s' : Sl) (neg' : Bool) w' => Zr w' s' neg' (x * y) ∧ ∀ c, s'.blk = some c → w.w.heap.size ≤ c := by
  refine Ct.zigguratref17_Mul ?_
  unfold Sh.zigguratref17_Mul
  intro w1 e1 w2 e2 w3 e3
  have e := ((e1.trans e2).trans e3).drew
  refine c1 (ref_Mul (ha.1.here.ext e) (hb.1.here.ext e) hx hy) fun s w4 e4 h4 => ?_
  refine cl0 (ref17_made (neg := !(na == nb)) h4.dr) ?_
  intro r r1 w5 e5 hr
  obtain ⟨hr, hrs⟩ := hr
  have hr : Zr w5 r r1 (if (!(na == nb)) then -((x.natAbs * y.natAbs : Nat) : Int) else (x.natAbs * y.natAbs : Nat)) := hr
  intro w6 e6
  refine ⟨(r, r1, ()), rfl, ((e.trans e4).trans e5).trans e6, ?_, fun c hc => by rw [hrs] at hc; exact Nat.le_trans e.size (Ow.blk_le h4 c hc)⟩
  have : (if (!(na == nb)) then -((x.natAbs * y.natAbs : Nat) : Int) else (x.natAbs * y.natAbs : Nat)) = x * y := by
    rw [ha.2, hb.2, ← Int.natAbs_mul]
    by_cases h0 : x < 0
    · by_cases h1 : y < 0
      · have := Int.mul_pos_of_neg_of_neg h0 h1
        simp [h0, h1]; omega
      · have := Int.mul_nonpos_of_nonpos_of_nonneg (Int.le_of_lt h0) (Int.not_lt.1 h1)
        simp [h0, h1]; omega
    · by_cases h1 : y < 0
      · have := Int.mul_nonpos_of_nonneg_of_nonpos (Int.not_lt.1 h0) (Int.le_of_lt h1)
        simp [h0, h1]; omega
      · have := Int.mul_nonneg (Int.not_lt.1 h0) (Int.not_lt.1 h1)
        simp [h0, h1]; omega
  rw [this] at hr
  exact (hr.ext e6).at
theorem ref17_Small {w : TW} {n : Int} (h1 : -9223372036854775808 < n) (h2 : n ≤ 9223372036854775807) : Ct Pg F.zigguratref17_Small [.int .i64 n] w none_ [.agg [.slice, .bool]] fun (s' : Sl) (neg' : Bool) w' => Zr w' s' neg' n ∧ ∀ c, s'.blk = some c → w.w.heap.size ≤ c := by
  refine Ct.zigguratref17_Small ?_
  unfold Sh.zigguratref17_Small
  intro w1 e1
  refine cnd_d (fun h => ?_) (fun h => ?_)
  · refine bnd_wi (by omega) (by omega) (bnd_wu' (y := n.natAbs) (by omega) (by rw [w64]; omega) ?_)
    refine c1 (ref_Small (y := n.natAbs) (by rw [w64]; omega)) fun s w2 e2 g2 => ?_
    refine cl0 (ref17_made (neg := true) g2.dr) ?_
    intro r r1 w3 e3 hr
    obtain ⟨hr, hrs⟩ := hr
    have hr : Zr w3 r r1 (if true then -(n.natAbs : Int) else n.natAbs) := hr
    intro w4 e4
    refine ⟨(r, r1, ()), rfl, ((e1.trans e2).trans e3).trans e4, ?_, fun c hc => by rw [hrs] at hc; exact Nat.le_trans e1.size (Ow.blk_le g2 c hc)⟩
    rw [if_pos rfl, show -(n.natAbs : Int) = n by omega] at hr
    exact (hr.ext e4).at
  · refine bnd_wu' (y := n.natAbs) (by omega) (by rw [w64]; omega) ?_
    refine c1 (ref_Small (y := n.natAbs) (by rw [w64]; omega)) fun s w2 e2 g2 => ?_
    refine cl0 (ref17_made (neg := false) g2.dr) ?_
    intro r r1 w3 e3 hr
    obtain ⟨hr, hrs⟩ := hr
    have hr : Zr w3 r r1 (if false then -(n.natAbs : Int) else n.natAbs) := hr
    intro w4 e4
    refine ⟨(r, r1, ()), rfl, ((e1.trans e2).trans e3).trans e4, ?_, fun c hc => by rw [hrs] at hc; exact Nat.le_trans e1.size (Ow.blk_le g2 c hc)⟩
    rw [if_neg (by decide), show (n.natAbs : Int) = n by omega] at hr
    exact (hr.ext e4).at
theorem ref17_To {w : TW} {a : Sl} {na : Bool} {z : Int} (ha : Zr w a na z) (hx : dz z.natAbs ≤ 274877906944) : Ct Pg F.zigguratref17_To [.agg #[a.v, .bool na]] w none_ [.agg [.slice, .bool]] fun (s' : Sl) (neg' : Bool) w' => On w' w.w.heap.size s' z.natAbs ∧ neg' = decide (z < 0) := by
  refine Ct.zigguratref17_To ?_
  unfold Sh.zigguratref17_To
  intro w1 e1 w2 e2
  have e := (e1.trans e2).drew
  refine c1 (ref_To (ha.1.here.ext e) hx) fun s w3 e3 h3 => ?_
  intro w4 e4
  exact ⟨(s, na, ()), rfl, (e.trans e3).trans e4, On.at (On.less (On.ext h3 e4) e.size), ha.2⟩
theorem keep_Int {w : TW} {a b : Sl} {na nb : Bool} {A B : Nat} {x y : Nat} (ha : On w A a x) (hb : On w B b y) (hxy : x = y) (hn : na = nb) : Ct Pg F.zigguratkeep_Int [.agg #[a.v, .bool na], .agg #[b.v, .bool nb]] w none_ [.one .bool] fun (r : Bool) _ => r = true := by
  subst hxy hn
  refine Ct.zigguratkeep_Int ?_
  unfold Sh.zigguratkeep_Int
  intro w1 e1 w2 e2
  have e := e1.trans e2
  have ga := (Ow.rd ha).here.ext e
  have gb := (Ow.rd hb).here.ext e
  refine j1 (fun (r : Bool) w' => r = true ∧ Ext none_ w.here w') ?_ ?_
  · refine cnd_t (by simp) (c1 (keep_Same ga gb) ?_)
    rintro r w3 e3 rfl
    exact ⟨rfl, e.trans e3⟩
  rintro r w' ⟨rfl, f⟩
  exact rt1 (c := .bool) _ f rfl
end Go.Proofs.YticehedkalheiaaGreatDoor.Zg
end

section
namespace Go.Proofs.YticehedkalheiaaGreatDoor.Zg
open Go.RowKit
theorem addp (b o n : Nat) : (⟨b, o, none⟩ : Addr).add n = ⟨b, o + n, none⟩ := by
  unfold Addr.add
  split
  · next h => subst h; rfl
  · rfl
theorem Own.less {w : TW} {B B' : Nat} {e : TypeId} {sz : Nat} {s : Sl} {vs : List Value} (h : Own w B e sz s vs) (hB : B' ≤ B) : Own w B' e sz s vs := by
  obtain ⟨⟨h1, h2⟩, h3⟩ := h
  refine ⟨⟨h1, ?_⟩, h3⟩
  rcases h2 with h2 | ⟨g, cap, cur, hv, hb, r⟩
  · exact .inl h2
  · exact .inr ⟨g, cap, cur, hv, Nat.le_trans hB hb, r⟩
theorem Own.from_ {w : TW} {B : Nat} {e : TypeId} {sz : Nat} {s : Sl} {vs : List Value} (h : Own w B e sz s vs) : ∀ b, s.blk = some b → B ≤ b ∧ b < w.w.heap.size := fun b hb => by
  rcases h.form with ⟨rfl, _⟩ | ⟨g, cur, hp, hB, hg, _⟩
  · simp [Sl.blk] at hb
  · simp [Sl.blk, hp] at hb; subst hb; exact ⟨hB, (Array.getElem?_eq_some_iff.1 hg).1⟩
theorem Own.at {w : TW} {B k : Nat} {e : TypeId} {sz : Nat} {s : Sl} {vs : List Value} (h : Own w B e sz s vs) : Own (w.at k) B e sz s vs := ⟨h.1, h.2⟩
/-- A cell of one's own row is written. -/
theorem Own.put {w : TW} {B : Nat} {e : TypeId} {sz : Nat} {s : Sl} {vs : List Value} (h : Own w B e sz s vs) {b : Nat} (hp : s.p = some ⟨b, 0, none⟩) {j : Nat} (hj : j < vs.length) (x : Value) {K : TW → Prop}
    (hK : ∀ w', Own w' B e sz s (vs.set j x) → Ext (fun c => s.blk = some c) w w' → K w') : stc w ⟨b, j, none⟩ x K := by
  have h1 := h.1.1
  rcases h.form with ⟨hs, hv⟩ | ⟨b', cur, hp', hB, hg, hnc, hcm, hcs, ht, hV⟩
  · rw [hv] at hj; simp at hj
  · rw [hp] at hp'
    cases hp'
    have hlen : (cur.toList.take (s.n * sz)).length = vs.length := by rw [ht]
    have hcur : j < cur.size := by simp at hlen; omega
    have hcell : w.w.cell? ⟨b, j, none⟩ = some cur[j] := by rw [cell_of_row w.w b j cur e (0, 0) hg, Array.getElem?_eq_getElem hcur]
    have hset : (w.w.setCell ⟨b, j, none⟩ x).heap[b]? = some (.cells (cur.set j x hcur) e (0, 0)) := by
      simp [World.setCell, Array.getElem?_modify, hg, Array.setIfInBounds, hcur]
    have hbk : s.blk = some b := by simp [Sl.blk, hp]
    refine ⟨⟨_, hcell⟩, by simp [World.frozen?, hg], hV, hK (w.set ⟨b, j, none⟩ x) ⟨⟨by simpa using h1, .inr ⟨b, s.c, _, by simp [hp], hB, hset, hnc, hcm, by simpa using hcs, ?_⟩⟩, fun c hc => by rw [hbk] at hc; injection hc with hc; subst hc; exact hV⟩ ?_⟩
    · rw [Array.toList_set, List.take_set, ht]
    · exact ⟨rfl, rfl, rfl, by simp [TW.set, World.setCell], rfl, fun _ h => h, fun _ h => .inl h, fun k hk hX _ => Below.heap_setCell w.w _ _ k (fun e => hX (by rw [hbk, e])), fun k hk => setCell_shape _ _ _ _⟩
end Go.Proofs.YticehedkalheiaaGreatDoor.Zg
end

section
namespace Go.Proofs.YticehedkalheiaaGreatDoor.Zg
open Go.RowKit
theorem bl_half {m : Nat} (h : 0 < m) : bl m = bl (m / 2) + 1 := by
  unfold bl
  rw [dg_pos (Nat.le_refl 2) h]
  rfl
theorem ref_Bits' {w : TW} {s : Sl} {x : Nat} (hs : Dr w s x) (hx : dz x ≤ 274877906944) : Ct Pg F.zigguratref02_Bits [s.v] w none_ [.one (.int .i64)] fun (r : Int) _ => r = bl x := by
  refine Ct.zigguratref02_Bits ?_
  unfold Sh.zigguratref02_Bits
  have ls := hs.len
  refine cnd_i (fun h0 => ?_) (fun h0 => ?_)
  · have : dz x = 0 := by simp at h0; omega
    refine rt1 (c := .int .i64) _ (Ext.refl _ _) ?_
    rw [dz_zero] at this
    subst this
    rw [bl_zero]; rfl
  have h0 : dz x ≠ 0 := fun h => by simp [ls, h] at h0
  have h0 : 0 < dz x := by omega
  refine bnd_wi (by omega) (by omega) (bnd_wi (by omega) (by omega) (bnd_wi (by omega) (by omega) ?_))
  refine (Rd.here hs).ix (j := dz x - 1) (by omega) (by rw [dz_eq]; omega) ?_
  have hv := Dr.lt hs (dz x - 1)
  have hgo := vl_take_getD B32 (dg B32 x) (dz x - 1)
  rw [show dz x - 1 + 1 = dz x by omega, vl_take_all (l := dg B32 x) (by rw [dz_eq]; exact Nat.le_refl _), vl_dg b2] at hgo
  have hlow := vl_lt ((dg_sm b2 x).take (dz x - 1))
  rw [List.length_take, dz_eq, Nat.min_eq_left (by omega)] at hlow
  have hx0 : 0 < x := by
    rcases Nat.eq_zero_or_pos x with h | h
    · subst h; rw [dz_zero.2 rfl] at h0; omega
    · exact h
  have htop : B32 ^ (dz x - 1) ≤ x := pow_le_of_dg b2 hx0
  generalize (dg B32 x).getD (dz x - 1) 0 = v at *
  generalize vl B32 ((dg B32 x).take (dz x - 1)) = low at *
  have hB : B32 ^ (dz x - 1) = 2 ^ (32 * (dz x - 1)) := by rw [Nat.pow_mul]
  have hbv : bl v ≤ 32 := bl_pow hv
  have hbx : bl x = bl v + 32 * (dz x - 1) := by
    rw [hB] at htop hgo hlow
    generalize 32 * (dz x - 1) = k at htop hgo hlow ⊢
    rw [bl_shift htop]
    congr 2
    rw [hgo, Nat.add_mul_div_left _ _ (Nat.two_pow_pos _), Nat.div_eq_of_lt hlow, Nat.zero_add]
  refine j1 (fun (n : Int) w' => w' = w.here ∧ n = (32 * (dz x - 1) + bl v : Nat)) ?_ ?_
  · refine lp2 (fun m (n y : Int) w' => w' = w.here ∧ ∃ k u : Nat, n = (32 * (dz x - 1) + k : Nat) ∧ y = u ∧ m = u ∧ bl v = k + bl u ∧ u < W64) v ⟨rfl, 0, v, by omega, rfl, rfl, by omega, Nat.lt_trans hv (by decide)⟩ ?_
    rintro m n y w' ⟨rfl, k, u, rfl, rfl, rfl, hu, hmW⟩
    refine cnd_d (fun h => ?_) (fun h => ?_)
    · have hh := bl_half (m := m) (by omega)
      refine bnd_wi (by omega) (by omega) (divNu (x := m) (y := 2) rfl rfl hmW (by decide) ⟨m / 2, by omega, rfl, k + 1, m / 2, by omega, rfl, rfl, by omega, Nat.lt_of_le_of_lt (Nat.div_le_self _ _) hmW⟩)
    · refine ⟨rfl, ?_⟩
      have : m = 0 := by omega
      rw [this, bl_zero] at hu
      omega
  rintro n w' ⟨rfl, rfl⟩
  refine rt1 (c := .int .i64) _ (Ext.refl _ _) ?_
  rw [hbx, Nat.add_comm]
/-- A whole number as an answer. -/
def Io (w : TW) (B : Nat) (s : Sl) (neg : Bool) (z : Int) : Prop := On w B s z.natAbs ∧ neg = decide (z < 0)
theorem Io.ext {w w' : TW} {B : Nat} {s : Sl} {neg : Bool} {z : Int} (h : Io w B s neg z) (e : Ext none_ w w') : Io w' B s neg z := ⟨On.ext h.1 e, h.2⟩
theorem Io.less {w : TW} {B B' : Nat} {s : Sl} {neg : Bool} {z : Int} (h : Io w B s neg z) (e : B' ≤ B) : Io w B' s neg z := ⟨On.less h.1 e, h.2⟩
theorem Io.at {w : TW} {B k : Nat} {s : Sl} {neg : Bool} {z : Int} (h : Io w B s neg z) : Io (w.at k) B s neg z := ⟨On.at h.1, h.2⟩
theorem api_Zero {w : TW} {s : Sl} {x : Nat} (h : Nt w s x) : Ct Pg F.api_Nat_Zero [s.v] w none_ [.one .bool] fun (r : Bool) _ => r = decide (x = 0) := by
  obtain ⟨l, h, rfl⟩ := h
  refine Ct.api_Nat_Zero ?_
  unfold Sh.api_Nat_Zero
  refine c1 (api_Nat_Len h.here) ?_
  rintro r w1 e1 rfl
  refine rt1 (c := .bool) _ e1 ?_
  have := @sz_zero (vl W64 l)
  by_cases hx : vl W64 l = 0
  · rw [this.2 hx]; simp [hx]
  · have : sz (vl W64 l) ≠ 0 := fun h => hx (this.1 h)
    simp [hx]; omega
theorem sz_top {l : List Nat} (hl : Sm W64 l) (h : 0 < vl W64 l) : vl W64 l = vl W64 (l.take (sz (vl W64 l) - 1)) + W64 ^ (sz (vl W64 l) - 1) * l.getD (sz (vl W64 l) - 1) 0 := by
  have hp : 0 < sz (vl W64 l) := by
    rcases Nat.eq_zero_or_pos (sz (vl W64 l)) with h0 | h0
    · rw [sz_zero] at h0; omega
    · exact h0
  have hd := (dg_vl W2 hl).1
  have h1 := vl_take_getD W64 l (sz (vl W64 l) - 1)
  rw [show sz (vl W64 l) - 1 + 1 = sz (vl W64 l) by omega] at h1
  rw [← h1]
  conv => lhs; rw [← vl_dg W2 (vl W64 l), hd]
  rfl
theorem bl_words {l : List Nat} (hl : Sm W64 l) (h : 0 < vl W64 l) : bl (vl W64 l) = bl (l.getD (sz (vl W64 l) - 1) 0) + 64 * (sz (vl W64 l) - 1) := by
  have h1 := sz_top hl h
  have hlow := vl_lt (hl.take (sz (vl W64 l) - 1))
  have hsz := sz_vl hl
  rw [List.length_take, Nat.min_eq_left (by omega)] at hlow
  have htop := sz_le h
  have hB : W64 ^ (sz (vl W64 l) - 1) = 2 ^ (64 * (sz (vl W64 l) - 1)) := by rw [Nat.pow_mul]
  rw [hB] at htop h1 hlow
  generalize l.getD (sz (vl W64 l) - 1) 0 = v at *
  generalize vl W64 (l.take (sz (vl W64 l) - 1)) = low at *
  generalize 64 * (sz (vl W64 l) - 1) = k at *
  rw [bl_shift htop]
  congr 2
  rw [h1, Nat.add_mul_div_left _ _ (Nat.two_pow_pos _), Nat.div_eq_of_lt hlow, Nat.zero_add]
theorem api_Bits {w : TW} {s : Sl} {x : Nat} (h : Nt w s x) (hn : sz x ≤ 1099511627776) : Ct Pg F.api_Nat_Bits [s.v] w none_ [.one (.int .i64)] fun (r : Int) _ => r = bl x := by
  obtain ⟨l, h, rfl⟩ := h
  refine Ct.api_Nat_Bits ?_
  unfold Sh.api_Nat_Bits
  have hl := h.len
  have hsz := sz_vl h.sm
  refine c1 (api_Nat_Len h.here) ?_
  rintro r w1 e1 rfl
  refine cnd_i (fun h0 => ?_) (fun h0 => ?_)
  · refine rt1 (c := .int .i64) _ e1 ?_
    have : sz (vl W64 l) = 0 := by simp at h0; omega
    rw [sz_zero.1 this, bl_zero]; rfl
  · have h0 : sz (vl W64 l) ≠ 0 := fun h => by simp [h] at h0
    have hp : 0 < vl W64 l := by
      rcases Nat.eq_zero_or_pos (vl W64 l) with h | h
      · rw [h, sz0] at h0; omega
      · exact h
    refine bnd_wi (by omega) (by omega) (bnd_wi (by omega) (by omega) (bnd_wi (by omega) (by omega) ?_))
    refine (h.here.ext e1).ix (j := sz (vl W64 l) - 1) (by omega) (by omega) ?_
    have hb := bl_words h.sm hp
    have hv := h.lt (sz (vl W64 l) - 1)
    generalize l.getD (sz (vl W64 l) - 1) 0 = v at *
    refine c1 (bits_Len64 (x := v) hv) ?_
    rintro r w2 e2 rfl
    have hbv : bl v ≤ 64 := bl_pow hv
    refine bnd_wi (by omega) (by omega) (rt1 (c := .int .i64) _ (e1.trans e2) ?_)
    rw [hb]; omega
theorem num_made {w : TW} {B : Nat} {s : Sl} {v : Nat} {neg : Bool} (h : On w B s v) : Ct Pg F.num_made [s.v, .bool neg] w none_ [.agg [.slice, .bool]] fun (s' : Sl) (neg' : Bool) w' => Io w' B s' neg' (if neg then -(v : Int) else v) ∧ s' = s := by
  refine Ct.num_made ?_
  unfold Sh.num_made
  intro w1 e1
  refine j2 (fun (s' : Sl) (neg' : Bool) w' => Io w' B s' neg' (if neg then -(v : Int) else v) ∧ s' = s ∧ Ext none_ w.here w') ?_ ?_
  · have h1 : On w1 B s v := On.ext (w := w.here) (Ow.here h) e1
    cases neg with
    | true =>
      refine cnd_t rfl (c1 (api_Zero h1.nt) ?_)
      rintro r w2 e2 rfl
      intro w3 e3
      refine ⟨⟨?_, ?_⟩, rfl, (e1.trans e2).trans e3⟩
      · rw [if_pos rfl, Int.natAbs_neg, Int.natAbs_natCast]
        exact On.ext (On.ext h1 e2) e3
      · rw [if_pos rfl]
        by_cases hx : v = 0
        · simp [hx]
        · simp [hx]; omega
    | false =>
      refine cnd_f rfl fun w2 e2 => ⟨⟨On.ext h1 e2, by simp⟩, rfl, e1.trans e2⟩
  rintro s' neg' w' ⟨hz, he, e⟩
  exact ⟨(s', neg', ()), rfl, e, hz.at, he⟩
/-- A call of made. -/
theorem mdd {w : TW} {B : Nat} {s : Sl} {v : Nat} {neg : Bool} (h : On w B s v) {K : Sl → Bool → TW → Prop} (hK : ∀ s' neg' w', Ext none_ w w' → Io w' B s' neg' (if neg then -(v : Int) else v) → K s' neg' w') : cl Pg F.num_made [s.v, .bool neg] w [.agg [.slice, .bool]] K :=
  cl0 (num_made (neg := neg) h) fun s' neg' w' e h => hK s' neg' w' e h.1
theorem num_Of {w : TW} {n : Int} (h1 : -9223372036854775808 ≤ n) (h2 : n ≤ 9223372036854775807) : Ct Pg F.num_Of [.int .i64 n] w none_ [.agg [.slice, .bool]] fun (s' : Sl) (neg' : Bool) w' => Io w' w.w.heap.size s' neg' n := by
  refine Ct.num_Of ?_
  unfold Sh.num_Of
  intro w1 e1
  refine cnd_d (fun h => ?_) (fun h => ?_)
  · have ha : IntKind.u64.wrap n = n + 18446744073709551616 := by rw [IntKind.wrap_u64]; omega
    have hb : IntKind.u64.wrap (0 - (n + 18446744073709551616)) = (n.natAbs : Int) := by rw [IntKind.wrap_u64]; omega
    refine bnd_eq (y := n + 18446744073709551616) ha (bnd_eq (y := (n.natAbs : Int)) hb ?_)
    refine c1 (limb_One (y := n.natAbs) (by rw [w64]; omega)) fun s w2 e2 g2 => mdd g2 fun r r1 w3 e3 hr => ?_
    intro w4 e4
    rw [if_pos rfl, show -(n.natAbs : Int) = n by omega] at hr
    exact ⟨(r, r1, ()), rfl, ((e1.trans e2).trans e3).trans e4, ((hr.ext e4).less e1.size).at⟩
  · refine bnd_wu' (y := n.natAbs) (by omega) (by rw [w64]; omega) ?_
    refine c1 (limb_One (y := n.natAbs) (by rw [w64]; omega)) fun s w2 e2 g2 => mdd g2 fun r r1 w3 e3 hr => ?_
    intro w4 e4
    rw [if_neg (by decide), show (n.natAbs : Int) = n by omega] at hr
    exact ⟨(r, r1, ()), rfl, ((e1.trans e2).trans e3).trans e4, ((hr.ext e4).less e1.size).at⟩
end Go.Proofs.YticehedkalheiaaGreatDoor.Zg
end

section
namespace Go.Proofs.YticehedkalheiaaGreatDoor.Zg
open Go.RowKit
theorem Rdv.here {w : TW} {k : Nat} {s : Sl} {vs : List Value} (h : Rdv w k s vs) : Rdv w.here k s vs := h
end Go.Proofs.YticehedkalheiaaGreatDoor.Zg
end

section
namespace Go.Proofs.YticehedkalheiaaGreatDoor.Zg
open Go.RowKit
theorem Rd.lt_blk {w : TW} {s : Sl} {l : List Nat} (h : Rd w s l) (hl : l ≠ []) : ∀ c, s.blk = some c → c < w.w.heap.size := fun c hc => by
  have hne : l.map U ≠ [] := by simpa using hl
  obtain ⟨b, o, hp, _, hcell⟩ := h.rv.2.2.2 hne
  have : c = b := by simp [Sl.blk, hp] at hc; omega
  subst this
  obtain ⟨v, hv⟩ : ∃ v, (l.map U)[0]? = some v := ⟨_, List.getElem?_eq_getElem (List.length_pos_iff.2 hne)⟩
  exact World.block_lt_of_cell? w.w _ (hcell 0 v hv)
end Go.Proofs.YticehedkalheiaaGreatDoor.Zg
end
