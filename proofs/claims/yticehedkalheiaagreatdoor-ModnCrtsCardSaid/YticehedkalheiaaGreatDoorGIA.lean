/- A part of the proofs of this seat's laws: words, lemmas or contracts of its functions. -/
import Derived.Test.YticehedkalheiaaGreatDoorGKC
import Derived.Test.YticehedkalheiaaGreatDoorGP5
import Derived.Test.YticehedkalheiaaGreatDoorGQ
import Derived.Test.YticehedkalheiaaGreatDoorGP2
import Derived.Test.YticehedkalheiaaGreatDoorGA
import Derived.Test.YticehedkalheiaaGreatDoorGKA
import Derived.Test.YticehedkalheiaaGreatDoorGB
import Derived.Test.YticehedkalheiaaGreatDoorGK
import Derived.Test.YticehedkalheiaaGreatDoorGP
import Derived.Test.YticehedkalheiaaGreatDoorGP1
import Derived.Test.YticehedkalheiaaGreatDoorGP3
import Derived.Test.YticehedkalheiaaGreatDoorGP4
import Derived.Test.YticehedkalheiaaGreatDoorGS
import Derived.Test.YticehedkalheiaaGreatDoorGC
set_option linter.unusedVariables false
set_option linter.unusedSimpArgs false
set_option linter.unnecessarySimpa false
section
namespace Go.Proofs.YticehedkalheiaaGreatDoor.Zg
open Go.RowKit
def Zr (w : TW) (s : Sl) (neg : Bool) (z : Int) : Prop := Dr w s z.natAbs ∧ neg = decide (z < 0)
theorem Zr.ext {w w' : TW} {s : Sl} {neg : Bool} {z : Int} (h : Zr w s neg z) (e : Ext none_ w w') : Zr w' s neg z := ⟨h.1.ext e, h.2⟩
theorem Zr.here {w : TW} {s : Sl} {neg : Bool} {z : Int} (h : Zr w s neg z) : Zr w.here s neg z := ⟨h.1.here, h.2⟩
theorem Zr.at {w : TW} {k : Nat} {s : Sl} {neg : Bool} {z : Int} (h : Zr w s neg z) : Zr (w.at k) s neg z := ⟨Rd.at_ h.1, h.2⟩
theorem ref17_Nat {w : TW} {s : Sl} {x : Nat} (h : Dr w s x) : Ct Pg F.zigguratref17_Nat [s.v] w none_ [.agg [.slice, .bool]] fun (s' : Sl) (neg : Bool) w' => Zr w' s' neg x := by
 refine Ct.zigguratref17_Nat ?_
 unfold Sh.zigguratref17_Nat
 intro w1 e1 w2 e2
 exact ⟨(s, false, ()), rfl, e1.trans e2, Zr.at ⟨((h.here.ext e1).ext e2), by simp⟩⟩
theorem ref17_made {w : TW} {s : Sl} {x : Nat} {neg : Bool} (h : Dr w s x) : Ct Pg F.zigguratref17_made [s.v, .bool neg] w none_ [.agg [.slice, .bool]] fun (s' : Sl) (neg' : Bool) w' => Zr w' s' neg' (if neg then -(x : Int) else x) ∧ s' = s := by
 refine Ct.zigguratref17_made ?_
 unfold Sh.zigguratref17_made
 intro w1 e1
 refine j2 (fun (s' : Sl) (neg' : Bool) w' => Zr w' s' neg' (if neg then -(x : Int) else x) ∧ Ext none_ w.here w' ∧ s' = s) ?_ ?_
 ·cases neg with
  | true =>
   refine cnd_t rfl (c1 (ref_Zero (h.here.ext e1)) ?_)
   rintro r w2 e2 rfl
   intro w3 e3
   refine ⟨⟨?_, ?_⟩, (e1.trans e2).trans e3, rfl⟩
   ·rw [if_pos rfl, Int.natAbs_neg, Int.natAbs_natCast]
    exact ((h.here.ext e1).ext e2).ext e3
   ·rw [if_pos rfl]
    by_cases hx : x = 0
    ·simp [hx]
    ·simp [hx]; omega
  | false =>
   refine cnd_f rfl fun w2 e2 => ⟨⟨(h.here.ext e1).ext e2, by simp⟩, e1.trans e2, rfl⟩
 rintro s' neg' w' ⟨hz, e, he⟩
 exact ⟨(s', neg', ()), rfl, e, hz.at, he⟩
theorem ref17_Neg {w : TW} {s : Sl} {neg : Bool} {z : Int} (h : Zr w s neg z) : Ct Pg F.zigguratref17_Neg [.agg #[s.v, .bool neg]] w none_ [.agg [.slice, .bool]] fun (s' : Sl) (neg' : Bool) w' => Zr w' s' neg' (-z) := by
 refine Ct.zigguratref17_Neg ?_
 unfold Sh.zigguratref17_Neg
 intro w1 e1 w2 e2
 refine cl0 (ref17_made (neg := !neg) ((h.1.here.ext e1).ext e2)) ?_
 intro r r1 w3 e3 hr
 obtain ⟨hr, hrs⟩ := hr
 have hr : Zr w3 r r1 (if (!neg) then -(z.natAbs : Int) else z.natAbs) := hr
 intro w4 e4
 refine ⟨(r, r1, ()), rfl, ((e1.trans e2).trans e3).trans e4, ?_⟩
 have hz : (if (!neg) then -(z.natAbs : Int) else z.natAbs) = -z := by
  rw [h.2]
  by_cases h0 : z < 0
  ·simp [h0]; omega
  ·simp [h0]; omega
 rw [hz] at hr
 exact (hr.ext e4).at
theorem ref17_Add {w : TW} {a b : Sl} {na nb : Bool} {x y : Int} (ha : Zr w a na x) (hb : Zr w b nb y) (hx : dz x.natAbs ≤ 274877906944) (hy : dz y.natAbs ≤ 274877906944) : Ct Pg F.zigguratref17_Add [.agg #[a.v, .bool na], .agg #[b.v, .bool nb]] w none_ [.agg [.slice, .bool]] fun (s' : Sl) (neg' : Bool) w' => Zr w' s' neg' (x + y) ∧ ∀ c, s'.blk = some c → w.w.heap.size ≤ c := by
 refine Ct.zigguratref17_Add ?_
 unfold Sh.zigguratref17_Add
 intro w1 e1 w2 e2 w3 e3
 have e := (e1.trans e2).trans e3
 have ga := ha.1.here.ext e
 have gb := hb.1.here.ext e
 have na' := ha.2
 have nb' := hb.2
 clear e1 e2 e3
 refine cnd_i (fun h => ?_) (fun h => ?_)
 ·have hab : na = nb := by simpa using h
  refine c1 (ref_Add (Dr.ext ga (Ext.refl _ _).drew) (Dr.ext gb (Ext.refl _ _).drew) hx hy) fun s w4 e4 h4 => ?_
  refine cl0 (ref17_made (neg := na) h4.dr) ?_
  intro r r1 w5 e5 hr
  obtain ⟨hr, hrs⟩ := hr
  have hr : Zr w5 r r1 (if na then -((x.natAbs + y.natAbs : Nat) : Int) else (x.natAbs + y.natAbs : Nat)) := hr
  intro w6 e6
  refine ⟨(r, r1, ()), rfl, ((e.drew.trans e4).trans e5).trans e6, ?_, fun c hc => by rw [hrs] at hc; exact Nat.le_trans e.size (Ow.blk_le h4 c hc)⟩
  have : (if na then -((x.natAbs + y.natAbs : Nat) : Int) else (x.natAbs + y.natAbs : Nat)) = x + y := by
   rw [nb'] at hab
   rw [na'] at hab ⊢
   by_cases h0 : x < 0
   ·have : y < 0 := by simpa [h0] using hab
    simp [h0]; omega
   ·have : ¬ y < 0 := by simpa [h0] using hab
    simp [h0]; omega
  rw [this] at hr
  exact (hr.ext e6).at
 ·have hab : na ≠ nb := by simpa using h
  refine c1 (ref_Cmp ga gb) ?_
  rintro r w4 e4 rfl
  have hd : (decide (cmpN x.natAbs y.natAbs ≥ 0)) = decide (y.natAbs ≤ x.natAbs) := cmp_ge
  have ga := Dr.ext (ga.ext e4) (Ext.refl _ _).drew
  have gb := Dr.ext (gb.ext e4) (Ext.refl _ _).drew
  have e := (e.trans e4).drew
  by_cases hle : y.natAbs ≤ x.natAbs
  ·refine cnd_t (by rw [hd]; simpa using hle) ?_
   refine c1 (ref_Sub ga gb hx hle) fun s w5 e5 h5 => ?_
   refine cl0 (ref17_made (neg := na) h5.dr) ?_
   intro r r1 w6 e6 hr
   obtain ⟨hr, hrs⟩ := hr
   have hr : Zr w6 r r1 (if na then -((x.natAbs - y.natAbs : Nat) : Int) else (x.natAbs - y.natAbs : Nat)) := hr
   intro w7 e7
   refine ⟨(r, r1, ()), rfl, ((e.trans e5).trans e6).trans e7, ?_, fun c hc => by rw [hrs] at hc; exact Nat.le_trans e.size (Ow.blk_le h5 c hc)⟩
   have : (if na then -((x.natAbs - y.natAbs : Nat) : Int) else (x.natAbs - y.natAbs : Nat)) = x + y := by
    rw [nb'] at hab
    rw [na'] at hab ⊢
    by_cases h0 : x < 0
    ·have : ¬ y < 0 := by simpa [h0] using hab
     simp [h0]; omega
    ·have : y < 0 := by simpa [h0] using hab
     simp [h0]; omega
   rw [this] at hr
   exact (hr.ext e7).at
  ·refine cnd_f (by rw [hd]; simpa using hle) ?_
   refine c1 (ref_Sub gb ga hy (by omega)) fun s w5 e5 h5 => ?_
   refine cl0 (ref17_made (neg := nb) h5.dr) ?_
   intro r r1 w6 e6 hr
   obtain ⟨hr, hrs⟩ := hr
   have hr : Zr w6 r r1 (if nb then -((y.natAbs - x.natAbs : Nat) : Int) else (y.natAbs - x.natAbs : Nat)) := hr
   intro w7 e7
   refine ⟨(r, r1, ()), rfl, ((e.trans e5).trans e6).trans e7, ?_, fun c hc => by rw [hrs] at hc; exact Nat.le_trans e.size (Ow.blk_le h5 c hc)⟩
   have : (if nb then -((y.natAbs - x.natAbs : Nat) : Int) else (y.natAbs - x.natAbs : Nat)) = x + y := by
    rw [na'] at hab
    rw [nb'] at hab ⊢
    by_cases h0 : y < 0
    ·have : ¬ x < 0 := by simpa [h0] using hab
     simp [h0]; omega
    ·have : x < 0 := by simpa [h0] using hab
     simp [h0]; omega
   rw [this] at hr
   exact (hr.ext e7).at
theorem ref17_Sub {w : TW} {a b : Sl} {na nb : Bool} {x y : Int} (ha : Zr w a na x) (hb : Zr w b nb y) (hx : dz x.natAbs ≤ 274877906944) (hy : dz y.natAbs ≤ 274877906944) : Ct Pg F.zigguratref17_Sub [.agg #[a.v, .bool na], .agg #[b.v, .bool nb]] w none_ [.agg [.slice, .bool]] fun (s' : Sl) (neg' : Bool) w' => Zr w' s' neg' (x - y) ∧ ∀ c, s'.blk = some c → w.w.heap.size ≤ c := by
 refine Ct.zigguratref17_Sub ?_
 unfold Sh.zigguratref17_Sub
 intro w1 e1 w2 e2 w3 e3
 have e := ((e1.trans e2).trans e3).drew
 refine cl0 (ref17_Neg (hb.here.ext e)) ?_
 intro r r1 w4 e4 hr
 have hr : Zr w4 r r1 (-y) := hr
 refine cl0 (ref17_Add ((ha.here.ext e).ext e4) hr hx (by rwa [Int.natAbs_neg])) ?_
 intro q q1 w5 e5 hq
 obtain ⟨hq, hqf⟩ := hq
 have hq : Zr w5 q q1 (x + -y) := hq
 intro w6 e6
 exact ⟨(q, q1, ()), rfl, ((e.trans e4).trans e5).trans e6, (hq.ext e6).at, fun c hc => Nat.le_trans (e.trans e4).size (hqf c hc)⟩
theorem ref17_Mul {w : TW} {a b : Sl} {na nb : Bool} {x y : Int} (ha : Zr w a na x) (hb : Zr w b nb y) (hx : dz x.natAbs ≤ 274877906944) (hy : dz y.natAbs ≤ 274877906944) : Ct Pg F.zigguratref17_Mul [.agg #[a.v, .bool na], .agg #[b.v, .bool nb]] w none_ [.agg [.slice, .bool]] fun (s' : Sl) (neg' : Bool) w' => Zr w' s' neg' (x * y) ∧ ∀ c, s'.blk = some c → w.w.heap.size ≤ c := by
 refine Ct.zigguratref17_Mul ?_
 unfold Sh.zigguratref17_Mul
 intro w1 e1 w2 e2 w3 e3
 have e := ((e1.trans e2).trans e3).drew
 refine c1 (ref_Mul (ha.1.here.ext e) (hb.1.here.ext e) hx hy) fun s w4 e4 h4 => ?_
 refine cl0 (ref17_made (neg := !(na == nb)) h4.dr) ?_
 intro r r1 w5 e5 hr
 obtain ⟨hr, hrs⟩ := hr
 have hr : Zr w5 r r1 (if (!(na == nb)) then -((x.natAbs * y.natAbs : Nat) : Int) else (x.natAbs * y.natAbs : Nat)) := hr
 intro w6 e6
 refine ⟨(r, r1, ()), rfl, ((e.trans e4).trans e5).trans e6, ?_, fun c hc => by rw [hrs] at hc; exact Nat.le_trans e.size (Ow.blk_le h4 c hc)⟩
 have : (if (!(na == nb)) then -((x.natAbs * y.natAbs : Nat) : Int) else (x.natAbs * y.natAbs : Nat)) = x * y := by
  rw [ha.2, hb.2, ← Int.natAbs_mul]
  by_cases h0 : x < 0
  ·by_cases h1 : y < 0
   ·have := Int.mul_pos_of_neg_of_neg h0 h1
    simp [h0, h1]; omega
   ·have := Int.mul_nonpos_of_nonpos_of_nonneg (Int.le_of_lt h0) (Int.not_lt.1 h1)
    simp [h0, h1]; omega
  ·by_cases h1 : y < 0
   ·have := Int.mul_nonpos_of_nonneg_of_nonpos (Int.not_lt.1 h0) (Int.le_of_lt h1)
    simp [h0, h1]; omega
   ·have := Int.mul_nonneg (Int.not_lt.1 h0) (Int.not_lt.1 h1)
    simp [h0, h1]; omega
 rw [this] at hr
 exact (hr.ext e6).at
theorem ref17_Small {w : TW} {n : Int} (h1 : -9223372036854775808 < n) (h2 : n ≤ 9223372036854775807) : Ct Pg F.zigguratref17_Small [.int .i64 n] w none_ [.agg [.slice, .bool]] fun (s' : Sl) (neg' : Bool) w' => Zr w' s' neg' n ∧ ∀ c, s'.blk = some c → w.w.heap.size ≤ c := by
 refine Ct.zigguratref17_Small ?_
 unfold Sh.zigguratref17_Small
 intro w1 e1
 refine cnd_d (fun h => ?_) (fun h => ?_)
 ·refine bnd_wi (by omega) (by omega) (bnd_wu' (y := n.natAbs) (by omega) (by rw [w64]; omega) ?_)
  refine c1 (ref_Small (y := n.natAbs) (by rw [w64]; omega)) fun s w2 e2 g2 => ?_
  refine cl0 (ref17_made (neg := true) g2.dr) ?_
  intro r r1 w3 e3 hr
  obtain ⟨hr, hrs⟩ := hr
  have hr : Zr w3 r r1 (if true then -(n.natAbs : Int) else n.natAbs) := hr
  intro w4 e4
  refine ⟨(r, r1, ()), rfl, ((e1.trans e2).trans e3).trans e4, ?_, fun c hc => by rw [hrs] at hc; exact Nat.le_trans e1.size (Ow.blk_le g2 c hc)⟩
  rw [if_pos rfl, show -(n.natAbs : Int) = n by omega] at hr
  exact (hr.ext e4).at
 ·refine bnd_wu' (y := n.natAbs) (by omega) (by rw [w64]; omega) ?_
  refine c1 (ref_Small (y := n.natAbs) (by rw [w64]; omega)) fun s w2 e2 g2 => ?_
  refine cl0 (ref17_made (neg := false) g2.dr) ?_
  intro r r1 w3 e3 hr
  obtain ⟨hr, hrs⟩ := hr
  have hr : Zr w3 r r1 (if false then -(n.natAbs : Int) else n.natAbs) := hr
  intro w4 e4
  refine ⟨(r, r1, ()), rfl, ((e1.trans e2).trans e3).trans e4, ?_, fun c hc => by rw [hrs] at hc; exact Nat.le_trans e1.size (Ow.blk_le g2 c hc)⟩
  rw [if_neg (by decide), show (n.natAbs : Int) = n by omega] at hr
  exact (hr.ext e4).at
theorem keep_Int {w : TW} {a b : Sl} {na nb : Bool} {A B : Nat} {x y : Nat} (ha : On w A a x) (hb : On w B b y) (hxy : x = y) (hn : na = nb) : Ct Pg F.zigguratkeep_Int [.agg #[a.v, .bool na], .agg #[b.v, .bool nb]] w none_ [.one .bool] fun (r : Bool) _ => r = true := by
 subst hxy hn
 refine Ct.zigguratkeep_Int ?_
 unfold Sh.zigguratkeep_Int
 intro w1 e1 w2 e2
 have e := e1.trans e2
 have ga := (Ow.rd ha).here.ext e
 have gb := (Ow.rd hb).here.ext e
 refine j1 (fun (r : Bool) w' => r = true ∧ Ext none_ w.here w') ?_ ?_
 ·refine cnd_t (by simp) (c1 (keep_Same ga gb) ?_)
  rintro r w3 e3 rfl
  exact ⟨rfl, e.trans e3⟩
 rintro r w' ⟨rfl, f⟩
 exact rt1 (c := .bool) _ f rfl
end Go.Proofs.YticehedkalheiaaGreatDoor.Zg
end

section
namespace Go.Proofs.YticehedkalheiaaGreatDoor.Zg
open Go.RowKit
theorem addp (b o n : Nat) : (⟨b, o, none⟩ : Addr).add n = ⟨b, o + n, none⟩ := by
 unfold Addr.add
 split
 ·next h => subst h; rfl
 ·rfl
theorem Own.less {w : TW} {B B' : Nat} {e : TypeId} {sz : Nat} {s : Sl} {vs : List Value} (h : Own w B e sz s vs) (hB : B' ≤ B) : Own w B' e sz s vs := by
 obtain ⟨⟨h1, h2⟩, h3⟩ := h
 refine ⟨⟨h1, ?_⟩, h3⟩
 rcases h2 with h2 | ⟨g, cap, cur, hv, hb, r⟩
 ·exact .inl h2
 ·exact .inr ⟨g, cap, cur, hv, Nat.le_trans hB hb, r⟩
theorem Own.from_ {w : TW} {B : Nat} {e : TypeId} {sz : Nat} {s : Sl} {vs : List Value} (h : Own w B e sz s vs) : ∀ b, s.blk = some b → B ≤ b ∧ b < w.w.heap.size := fun b hb => by
 rcases h.form with ⟨rfl, _⟩ | ⟨g, cur, hp, hB, hg, _⟩
 ·simp [Sl.blk] at hb
 ·simp [Sl.blk, hp] at hb; subst hb; exact ⟨hB, (Array.getElem?_eq_some_iff.1 hg).1⟩
theorem Own.at {w : TW} {B k : Nat} {e : TypeId} {sz : Nat} {s : Sl} {vs : List Value} (h : Own w B e sz s vs) : Own (w.at k) B e sz s vs := ⟨h.1, h.2⟩
theorem Own.put {w : TW} {B : Nat} {e : TypeId} {sz : Nat} {s : Sl} {vs : List Value} (h : Own w B e sz s vs) {b : Nat} (hp : s.p = some ⟨b, 0, none⟩) {j : Nat} (hj : j < vs.length) (x : Value) {K : TW → Prop}
  (hK : ∀ w', Own w' B e sz s (vs.set j x) → Ext (fun c => s.blk = some c) w w' → K w') : stc w ⟨b, j, none⟩ x K := by
 have h1 := h.1.1
 rcases h.form with ⟨hs, hv⟩ | ⟨b', cur, hp', hB, hg, hnc, hcm, hcs, ht, hV⟩
 ·rw [hv] at hj; simp at hj
 ·rw [hp] at hp'
  cases hp'
  have hlen : (cur.toList.take (s.n * sz)).length = vs.length := by rw [ht]
  have hcur : j < cur.size := by simp at hlen; omega
  have hcell : w.w.cell? ⟨b, j, none⟩ = some cur[j] := by rw [cell_of_row w.w b j cur e (0, 0) hg, Array.getElem?_eq_getElem hcur]
  have hset : (w.w.setCell ⟨b, j, none⟩ x).heap[b]? = some (.cells (cur.set j x hcur) e (0, 0)) := by
   simp [World.setCell, Array.getElem?_modify, hg, Array.setIfInBounds, hcur]
  have hbk : s.blk = some b := by simp [Sl.blk, hp]
  refine ⟨⟨_, hcell⟩, by simp [World.frozen?, hg], hV, hK (w.set ⟨b, j, none⟩ x) ⟨⟨by simpa using h1, .inr ⟨b, s.c, _, by simp [hp], hB, hset, hnc, hcm, by simpa using hcs, ?_⟩⟩, fun c hc => by rw [hbk] at hc; injection hc with hc; subst hc; exact hV⟩ ?_⟩
  ·rw [Array.toList_set, List.take_set, ht]
  ·exact ⟨rfl, rfl, rfl, by simp [TW.set, World.setCell], rfl, fun _ h => h, fun _ h => .inl h, fun k hk hX _ => Below.heap_setCell w.w _ _ k (fun e => hX (by rw [hbk, e])), fun k hk => setCell_shape _ _ _ _⟩
end Go.Proofs.YticehedkalheiaaGreatDoor.Zg
end

section
namespace Go.Proofs.YticehedkalheiaaGreatDoor.Zg
open Go.RowKit
def Iz (w : TW) (s : Sl) (neg : Bool) (z : Int) : Prop := ∃ v : Nat, Nt w s v ∧ z = if neg then -(v : Int) else v
def Io (w : TW) (B : Nat) (s : Sl) (neg : Bool) (z : Int) : Prop := On w B s z.natAbs ∧ neg = decide (z < 0)
theorem Iz.ext {w w' : TW} {s : Sl} {neg : Bool} {z : Int} (h : Iz w s neg z) (e : Ext none_ w w') : Iz w' s neg z := h.imp fun _ h => ⟨h.1.ext e, h.2⟩
theorem Iz.here {w : TW} {s : Sl} {neg : Bool} {z : Int} (h : Iz w s neg z) : Iz w.here s neg z := h.imp fun _ h => ⟨h.1.here, h.2⟩
theorem Io.iz {w : TW} {B : Nat} {s : Sl} {neg : Bool} {z : Int} (h : Io w B s neg z) : Iz w s neg z := ⟨z.natAbs, h.1.nt, by rw [h.2]; by_cases h0 : z < 0 <;> simp [h0] <;> omega⟩
theorem Io.ext {w w' : TW} {B : Nat} {s : Sl} {neg : Bool} {z : Int} (h : Io w B s neg z) (e : Ext none_ w w') : Io w' B s neg z := ⟨On.ext h.1 e, h.2⟩
theorem Io.less {w : TW} {B B' : Nat} {s : Sl} {neg : Bool} {z : Int} (h : Io w B s neg z) (e : B' ≤ B) : Io w B' s neg z := ⟨On.less h.1 e, h.2⟩
theorem Io.at {w : TW} {B k : Nat} {s : Sl} {neg : Bool} {z : Int} (h : Io w B s neg z) : Io (w.at k) B s neg z := ⟨On.at h.1, h.2⟩
theorem api_Zero {w : TW} {s : Sl} {x : Nat} (h : Nt w s x) : Ct Pg F.api_Nat_Zero [s.v] w none_ [.one .bool] fun (r : Bool) _ => r = decide (x = 0) := by
 obtain ⟨l, h, rfl⟩ := h
 refine Ct.api_Nat_Zero ?_
 unfold Sh.api_Nat_Zero
 refine c1 (api_Nat_Len h.here) ?_
 rintro r w1 e1 rfl
 refine rt1 (c := .bool) _ e1 ?_
 have := @sz_zero (vl W64 l)
 by_cases hx : vl W64 l = 0
 ·rw [this.2 hx]; simp [hx]
 ·have : sz (vl W64 l) ≠ 0 := fun h => hx (this.1 h)
  simp [hx]; omega
theorem sz_top {l : List Nat} (hl : Sm W64 l) (h : 0 < vl W64 l) : vl W64 l = vl W64 (l.take (sz (vl W64 l) - 1)) + W64 ^ (sz (vl W64 l) - 1) * l.getD (sz (vl W64 l) - 1) 0 := by
 have hp : 0 < sz (vl W64 l) := by
  rcases Nat.eq_zero_or_pos (sz (vl W64 l)) with h0 | h0
  ·rw [sz_zero] at h0; omega
  ·exact h0
 have hd := (dg_vl W2 hl).1
 have h1 := vl_take_getD W64 l (sz (vl W64 l) - 1)
 rw [show sz (vl W64 l) - 1 + 1 = sz (vl W64 l) by omega] at h1
 rw [← h1]
 conv => lhs; rw [← vl_dg W2 (vl W64 l), hd]
 rfl
theorem bl_words {l : List Nat} (hl : Sm W64 l) (h : 0 < vl W64 l) : bl (vl W64 l) = bl (l.getD (sz (vl W64 l) - 1) 0) + 64 * (sz (vl W64 l) - 1) := by
 have h1 := sz_top hl h
 have hlow := vl_lt (hl.take (sz (vl W64 l) - 1))
 have hsz := sz_vl hl
 rw [List.length_take, Nat.min_eq_left (by omega)] at hlow
 have htop := sz_le h
 have hB : W64 ^ (sz (vl W64 l) - 1) = 2 ^ (64 * (sz (vl W64 l) - 1)) := by rw [Nat.pow_mul]
 rw [hB] at htop h1 hlow
 generalize l.getD (sz (vl W64 l) - 1) 0 = v at *
 generalize vl W64 (l.take (sz (vl W64 l) - 1)) = low at *
 generalize 64 * (sz (vl W64 l) - 1) = k at *
 rw [bl_shift htop]
 congr 2
 rw [h1, Nat.add_mul_div_left _ _ (Nat.two_pow_pos _), Nat.div_eq_of_lt hlow, Nat.zero_add]
theorem api_Bits {w : TW} {s : Sl} {x : Nat} (h : Nt w s x) (hn : sz x ≤ 1099511627776) : Ct Pg F.api_Nat_Bits [s.v] w none_ [.one (.int .i64)] fun (r : Int) _ => r = bl x := by
 obtain ⟨l, h, rfl⟩ := h
 refine Ct.api_Nat_Bits ?_
 unfold Sh.api_Nat_Bits
 have hl := h.len
 have hsz := sz_vl h.sm
 refine c1 (api_Nat_Len h.here) ?_
 rintro r w1 e1 rfl
 refine cnd_i (fun h0 => ?_) (fun h0 => ?_)
 ·refine rt1 (c := .int .i64) _ e1 ?_
  have : sz (vl W64 l) = 0 := by simp at h0; omega
  rw [sz_zero.1 this, bl_zero]; rfl
 ·have h0 : sz (vl W64 l) ≠ 0 := fun h => by simp [h] at h0
  have hp : 0 < vl W64 l := by
   rcases Nat.eq_zero_or_pos (vl W64 l) with h | h
   ·rw [h, sz0] at h0; omega
   ·exact h
  refine bnd_wi (by omega) (by omega) (bnd_wi (by omega) (by omega) (bnd_wi (by omega) (by omega) ?_))
  refine (h.here.ext e1).ix (j := sz (vl W64 l) - 1) (by omega) (by omega) ?_
  have hb := bl_words h.sm hp
  have hv := h.lt (sz (vl W64 l) - 1)
  generalize l.getD (sz (vl W64 l) - 1) 0 = v at *
  refine c1 (bits_Len64 (x := v) hv) ?_
  rintro r w2 e2 rfl
  have hbv : bl v ≤ 64 := bl_pow hv
  refine bnd_wi (by omega) (by omega) (rt1 (c := .int .i64) _ (e1.trans e2) ?_)
  rw [hb]; omega
theorem num_made {w : TW} {B : Nat} {s : Sl} {v : Nat} {neg : Bool} (h : On w B s v) : Ct Pg F.num_made [s.v, .bool neg] w none_ [.agg [.slice, .bool]] fun (s' : Sl) (neg' : Bool) w' => Io w' B s' neg' (if neg then -(v : Int) else v) ∧ s' = s := by
 refine Ct.num_made ?_
 unfold Sh.num_made
 intro w1 e1
 refine j2 (fun (s' : Sl) (neg' : Bool) w' => Io w' B s' neg' (if neg then -(v : Int) else v) ∧ s' = s ∧ Ext none_ w.here w') ?_ ?_
 ·have h1 : On w1 B s v := On.ext (w := w.here) (Ow.here h) e1
  cases neg with
  | true =>
   refine cnd_t rfl (c1 (api_Zero h1.nt) ?_)
   rintro r w2 e2 rfl
   intro w3 e3
   refine ⟨⟨?_, ?_⟩, rfl, (e1.trans e2).trans e3⟩
   ·rw [if_pos rfl, Int.natAbs_neg, Int.natAbs_natCast]
    exact On.ext (On.ext h1 e2) e3
   ·rw [if_pos rfl]
    by_cases hx : v = 0
    ·simp [hx]
    ·simp [hx]; omega
  | false =>
   refine cnd_f rfl fun w2 e2 => ⟨⟨On.ext h1 e2, by simp⟩, rfl, e1.trans e2⟩
 rintro s' neg' w' ⟨hz, he, e⟩
 exact ⟨(s', neg', ()), rfl, e, hz.at, he⟩
theorem mdd {w : TW} {B : Nat} {s : Sl} {v : Nat} {neg : Bool} (h : On w B s v) {K : Sl → Bool → TW → Prop} (hK : ∀ s' neg' w', Ext none_ w w' → Io w' B s' neg' (if neg then -(v : Int) else v) → K s' neg' w') : cl Pg F.num_made [s.v, .bool neg] w [.agg [.slice, .bool]] K :=
 cl0 (num_made (neg := neg) h) fun s' neg' w' e h => hK s' neg' w' e h.1
theorem num_Of {w : TW} {n : Int} (h1 : -9223372036854775808 ≤ n) (h2 : n ≤ 9223372036854775807) : Ct Pg F.num_Of [.int .i64 n] w none_ [.agg [.slice, .bool]] fun (s' : Sl) (neg' : Bool) w' => Io w' w.w.heap.size s' neg' n := by
 refine Ct.num_Of ?_
 unfold Sh.num_Of
 intro w1 e1
 refine cnd_d (fun h => ?_) (fun h => ?_)
 ·have ha : IntKind.u64.wrap n = n + 18446744073709551616 := by rw [IntKind.wrap_u64]; omega
  have hb : IntKind.u64.wrap (0 - (n + 18446744073709551616)) = (n.natAbs : Int) := by rw [IntKind.wrap_u64]; omega
  refine bnd_eq (y := n + 18446744073709551616) ha (bnd_eq (y := (n.natAbs : Int)) hb ?_)
  refine c1 (limb_One (y := n.natAbs) (by rw [w64]; omega)) fun s w2 e2 g2 => mdd g2 fun r r1 w3 e3 hr => ?_
  intro w4 e4
  rw [if_pos rfl, show -(n.natAbs : Int) = n by omega] at hr
  exact ⟨(r, r1, ()), rfl, ((e1.trans e2).trans e3).trans e4, ((hr.ext e4).less e1.size).at⟩
 ·refine bnd_wu' (y := n.natAbs) (by omega) (by rw [w64]; omega) ?_
  refine c1 (limb_One (y := n.natAbs) (by rw [w64]; omega)) fun s w2 e2 g2 => mdd g2 fun r r1 w3 e3 hr => ?_
  intro w4 e4
  rw [if_neg (by decide), show (n.natAbs : Int) = n by omega] at hr
  exact ⟨(r, r1, ()), rfl, ((e1.trans e2).trans e3).trans e4, ((hr.ext e4).less e1.size).at⟩
end Go.Proofs.YticehedkalheiaaGreatDoor.Zg
end

section
namespace Go.Proofs.YticehedkalheiaaGreatDoor.Zg
open Go.RowKit
theorem Rdv.extN {w w' : TW} {k : Nat} {s : Sl} {vs : List Value} (h : Rdv w k s vs) (e : Ext none_ w w') : Rdv w' k s vs := by
 obtain ⟨h1, h2, h3, h4⟩ := h
 refine ⟨h1, h2, h3, fun hne => ?_⟩
 obtain ⟨b, o, hp, hV, hc⟩ := h4 hne
 have hb : b < w.w.heap.size := by
  obtain ⟨v, hv⟩ : ∃ v, vs[0]? = some v := ⟨_, List.getElem?_eq_getElem (List.length_pos_iff.2 hne)⟩
  exact World.block_lt_of_cell? w.w _ (hc 0 v hv)
 exact ⟨b, o, hp, fun hV' => (e.new b hV').elim hV fun h => by omega, fun j v hj => (World.cell?_of_block (e.block b hb (fun h => h) (.inr hV))).trans (hc j v hj)⟩
theorem Rdv.here {w : TW} {k : Nat} {s : Sl} {vs : List Value} (h : Rdv w k s vs) : Rdv w.here k s vs := h
end Go.Proofs.YticehedkalheiaaGreatDoor.Zg
end

section
namespace Go.Proofs.YticehedkalheiaaGreatDoor.Zg
open Go.RowKit
theorem ref02_Mod {w : TW} {s t : Sl} {x y : Nat} (hs : Dr w s x) (ht : Dr w t y) (hy : 0 < y) (hx : dz x ≤ 134217728) (hyd : dz y ≤ 134217728) : Ct Pg F.zigguratref02_Mod [s.v, t.v] w none_ [.one .slice] fun (r : Sl) w' => Dr w' r (x % y) ∧ (r = s ∨ ∀ c, r.blk = some c → w.w.heap.size ≤ c) := by
 refine Ct.zigguratref02_Mod ?_
 unfold Sh.zigguratref02_Mod
 refine c2 (ref_DivMod' hs.here ht.here hy hx hyd) ?_
 rintro q r w1 e1 ⟨⟨_, h2⟩, _, h3⟩
 exact rt1 (c := .slice) _ e1 ⟨Rd.at_ h2, h3⟩
theorem eu {x y q r : Int} (hy : 0 < y) (h : r + y * q = x) (h0 : 0 ≤ r) (h1 : r < y) : x / y = q ∧ x % y = r := (Int.ediv_emod_unique hy).2 ⟨h, h0, h1⟩
theorem mdr {w : TW} {s : Sl} {v : Nat} {neg : Bool} (h : Dr w s v) {K : Sl → Bool → TW → Prop} (hK : ∀ s' neg' w', Ext none_ w w' → Zr w' s' neg' (if neg then -(v : Int) else v) → s' = s → K s' neg' w') : cl Pg F.zigguratref17_made [s.v, .bool neg] w [.agg [.slice, .bool]] K :=
 cl0 (ref17_made (neg := neg) h) fun s' neg' w' e h => hK s' neg' w' e h.1 h.2
theorem ref17_Trunc {w : TW} {a b : Sl} {na nb : Bool} {x : Int} {M : Nat} (ha : Zr w a na x) (hb : Zr w b nb (M : Nat)) (hM : 0 < M) (hx : dz x.natAbs ≤ 134217728) (hy : dz M ≤ 134217728) : Ct Pg F.zigguratref17_Trunc [.agg #[a.v, .bool na], .agg #[b.v, .bool nb]] w none_ [.agg [.slice, .bool], .agg [.slice, .bool]] fun (q : Sl) (qn : Bool) (r : Sl) (rn : Bool) w' => Zr w' q qn (if x < 0 then -((x.natAbs / M : Nat) : Int) else (x.natAbs / M : Nat)) ∧ Zr w' r rn (if x < 0 then -((x.natAbs % M : Nat) : Int) else (x.natAbs % M : Nat)) ∧ (∀ c, q.blk = some c → w.w.heap.size ≤ c) ∧ (r = a ∨ ∀ c, r.blk = some c → w.w.heap.size ≤ c) := by
 refine Ct.zigguratref17_Trunc ?_
 unfold Sh.zigguratref17_Trunc
 intro w1 e1 w2 e2 w3 e3 w4 e4
 have e := ((e1.trans e2).trans e3).trans e4
 have nb0 : nb = false := by rw [hb.2]; simp
 refine c2 (ref_DivMod' (ha.1.here.ext e) (by have := hb.1.here.ext e; rwa [Int.natAbs_natCast] at this) hM hx hy) ?_
 rintro q r w5 e5 ⟨⟨h5, h6⟩, hf5, hf6⟩
 refine mdr (Dr.ext h5 (Ext.refl _ _).drew) fun q1 qn w6 e6 hq hqs => mdr ((Dr.ext h6 (Ext.refl _ _).drew).ext e6) fun r1 rn w7 e7 hr hrs => ?_
 intro w8 e8 w9 e9
 refine ⟨(q1, qn, r1, rn, ()), rfl, ((((e.trans e5).drew.trans e6).trans e7).trans e8).trans e9, ?_, ?_, fun c hc => Nat.le_trans e.size (hf5 c (by rw [← hqs]; exact hc)), by rw [hrs]; exact hf6.imp id fun h c hc => Nat.le_trans e.size (h c hc)⟩
 ·have := (((hq.ext e7).ext e8).ext e9).at (k := w.B)
  rw [nb0, ha.2] at this
  by_cases h0 : x < 0
  ·rw [if_pos h0]; simpa [h0] using this
  ·rw [if_neg h0]; simpa [h0] using this
 ·have := ((hr.ext e8).ext e9).at (k := w.B)
  rw [ha.2] at this
  by_cases h0 : x < 0
  ·rw [if_pos h0]; simpa [h0] using this
  ·rw [if_neg h0]; simpa [h0] using this
theorem div_facts (x : Int) {M : Nat} (hM : 0 < M) : (0 ≤ x → x / (M : Int) = (x.natAbs / M : Nat) ∧ x % (M : Int) = (x.natAbs % M : Nat)) ∧ (x < 0 → x.natAbs % M = 0 → x / (M : Int) = -((x.natAbs / M : Nat) : Int) ∧ x % (M : Int) = 0) ∧ (x < 0 → 0 < x.natAbs % M → x / (M : Int) = -((x.natAbs / M : Nat) : Int) - 1 ∧ x % (M : Int) = (M : Int) - (x.natAbs % M : Nat)) := by
 have h1 := Nat.div_add_mod x.natAbs M
 have h2 := Nat.mod_lt x.natAbs hM
 have h3 : ((x.natAbs : Nat) : Int) = (M : Int) * (x.natAbs / M : Nat) + (x.natAbs % M : Nat) := by rw [← Int.natCast_mul, ← Int.natCast_add, h1]
 generalize x.natAbs / M = q at *
 generalize x.natAbs % M = r at *
 refine ⟨fun h => eu (by omega) ?_ (by omega) (by omega), fun h hr => eu (by omega) ?_ (by omega) (by omega), fun h hr => eu (by omega) ?_ (by omega) (by omega)⟩
 ·omega
 ·rw [Int.mul_neg]; omega
 ·rw [Int.mul_sub, Int.mul_neg]; omega
theorem ref17_Euclid {w : TW} {a b : Sl} {na nb : Bool} {x : Int} {M : Nat} (ha : Zr w a na x) (hb : Zr w b nb (M : Nat)) (hM : 0 < M) (hx : dz x.natAbs ≤ 134217728) (hy : dz M ≤ 134217728) : Ct Pg F.zigguratref17_Euclid [.agg #[a.v, .bool na], .agg #[b.v, .bool nb]] w none_ [.agg [.slice, .bool], .agg [.slice, .bool]] fun (q : Sl) (qn : Bool) (r : Sl) (rn : Bool) w' => Zr w' q qn (x / (M : Int)) ∧ Zr w' r rn (x % (M : Int)) ∧ (r = a ∨ ∀ c, r.blk = some c → w.w.heap.size ≤ c) := by
 refine Ct.zigguratref17_Euclid ?_
 unfold Sh.zigguratref17_Euclid
 intro w1 e1 w2 e2 w3 e3 w4 e4
 have e := ((e1.trans e2).trans e3).trans e4
 have hb0 := hb.here.ext e
 obtain ⟨f0, f1, f2⟩ := div_facts x hM
 have nb0 : nb = false := by rw [hb.2]; simp
 refine cl0 (ref17_Trunc (ha.here.ext e) hb0 hM hx hy) ?_
 intro q qn r rn w5 e5 hp
 obtain ⟨hq, hr, hqf, hrf⟩ := hp
 intro w6 e6 w7 e7 w8 e8 w9 e9
 have g := ((e6.trans e7).trans e8).trans e9
 have hq : Zr w9 q qn _ := hq.ext g
 have hr : Zr w9 r rn _ := hr.ext g
 have e := (e.trans e5).trans g
 have hb9 := hb0.ext (e5.trans g)
 have hlt := Nat.mod_lt x.natAbs hM
 have hdx : dz (x.natAbs / M) ≤ 134217728 := Nat.le_trans (dz_mono (Nat.div_le_self _ _)) hx
 have hdr : dz (x.natAbs % M) ≤ 134217728 := Nat.le_trans (dz_mono (Nat.mod_le _ _)) hx
 have rn0 := hr.2
 by_cases hc : x < 0 ∧ 0 < x.natAbs % M
 ·refine cnd_f (by rw [rn0, if_pos hc.1]; simp; omega) (cnd_f nb0 ?_)
  obtain ⟨g1, g2⟩ := f2 hc.1 hc.2
  rw [if_pos hc.1] at hq hr
  refine cl0 (ref17_Small (n := 1) (by decide) (by decide)) ?_
  intro t tn w10 e10 ht
  have ht : Zr w10 t tn 1 := ht.1
  have e0 := (Ext.refl none_ w9).drew.trans e10
  refine cl0 (ref17_Sub (hq.ext e0) ht (by rw [Int.natAbs_neg, Int.natAbs_natCast]; omega) (by decide +kernel)) ?_
  intro q2 q2n w11 e11 hq2
  have hq2 : Zr w11 q2 q2n (-((x.natAbs / M : Nat) : Int) - 1) := hq2.1
  refine cl0 (ref17_Add ((hr.ext e0).ext e11) ((hb9.ext e0).ext e11) (by rw [Int.natAbs_neg, Int.natAbs_natCast]; omega) (by rw [Int.natAbs_natCast]; omega)) ?_
  intro r2 r2n w12 e12 hr2
  obtain ⟨hr2, hrf2⟩ := hr2
  have hr2 : Zr w12 r2 r2n (-((x.natAbs % M : Nat) : Int) + (M : Nat)) := hr2
  intro w13 e13 w14 e14
  refine ⟨(q2, q2n, r2, r2n, ()), rfl, ((((e.trans e0).trans e11).trans e12).trans e13).trans e14, ?_, ?_, .inr fun c hc => Nat.le_trans ((e.trans e0).trans e11).size (hrf2 c hc)⟩
  ·rw [g1]; exact (((hq2.ext e12).ext e13).ext e14).at
  ·rw [g2, show (M : Int) - (x.natAbs % M : Nat) = -((x.natAbs % M : Nat) : Int) + (M : Nat) by omega]; exact ((hr2.ext e13).ext e14).at
 ·refine cnd_t (by rw [rn0]; by_cases h0 : x < 0 <;> simp [h0] <;> omega) ?_
  intro w10 e10 w11 e11
  have e0 := ((Ext.refl none_ w9).drew.trans e10).trans e11
  have k : (if x < 0 then -((x.natAbs / M : Nat) : Int) else (x.natAbs / M : Nat)) = x / (M : Int) ∧ (if x < 0 then -((x.natAbs % M : Nat) : Int) else (x.natAbs % M : Nat)) = x % (M : Int) := by
   by_cases h0 : x < 0
   ·obtain ⟨g1, g2⟩ := f1 h0 (by omega)
    rw [if_pos h0, if_pos h0, g1, g2]
    exact ⟨rfl, by omega⟩
   ·obtain ⟨g1, g2⟩ := f0 (by omega)
    rw [if_neg h0, if_neg h0, g1, g2]
    exact ⟨rfl, rfl⟩
  rw [k.1] at hq
  rw [k.2] at hr
  exact ⟨(q, qn, r, rn, ()), rfl, e.trans e0, (hq.ext e0).at, (hr.ext e0).at, hrf.imp id fun h c hc => Nat.le_trans (((e1.trans e2).trans e3).trans e4).size (h c hc)⟩
theorem ref17_Residue {w : TW} {a m : Sl} {na : Bool} {x : Int} {M : Nat} (ha0 : Zr w a na x) (hm0 : Dr w m M) (hM : 0 < M) (hx : dz x.natAbs ≤ 134217728) (hy : dz M ≤ 134217728) : Ct Pg F.zigguratref17_Residue [.agg #[a.v, .bool na], m.v] w none_ [.one .slice] fun (r : Sl) w' => Dr w' r (x % (M : Int)).toNat ∧ (r = a ∨ ∀ c, r.blk = some c → w.w.heap.size ≤ c) := by
 refine Ct.zigguratref17_Residue ?_
 unfold Sh.zigguratref17_Residue
 have ha := ha0.here
 have hm := hm0.here
 have hnn : 0 ≤ x % (M : Int) := Int.emod_nonneg _ (by omega)
 have f : Ext none_ w.here w.here := Ext.refl _ _
 intro w1 E
 have f := f.trans E
 refine ⟨?_, ?_, ?_⟩
 ·skip
  have f := f.drew
  refine cl0 (ref17_Nat (hm.ext f)) ?_
  intro p1 p2 w2 E zm
  have zm : Zr w2 p1 p2 (M : Nat) := zm
  have f := f.trans E
  refine ⟨?_, ?_, ?_⟩
  ·skip
   refine cl0 (ref17_Euclid (ha.ext f) zm (by omega) hx hy) ?_
   intro q1 q2 q3 q4 w3 E hq
   have zr : Zr w3 q3 q4 (x % (M : Nat)) := hq.2.1
   have fr := hq.2.2.imp id fun h c hc => Nat.le_trans f.size (h c hc)
   have f := f.trans E
   refine ⟨?_, ?_⟩
   ·skip
    intro w4 E
    have f := f.trans E
    have zr := zr.ext E
    intro w5 E
    have f := f.trans E
    have zr := zr.ext E
    intro w6 E
    have f := f.trans E
    have zr := zr.ext E
    intro w7 E
    have f := f.trans E
    have zr := zr.ext E
    exact rt1 (c := .slice) _ f ⟨Rd.at_ (by have := zr.1; rwa [show (x % (M : Int)).natAbs = (x % (M : Int)).toNat by omega] at this), fr⟩
   ·skip
    intro w8 E
    have f := f.trans E
    have zr := zr.ext E
    intro w9 E
    have f := f.trans E
    have zr := zr.ext E
    intro w10 E
    have f := f.trans E
    have zr := zr.ext E
    intro w11 E
    have f := f.trans E
    have zr := zr.ext E
    exact rt1 (c := .slice) _ f ⟨Rd.at_ (by have := zr.1; rwa [show (x % (M : Int)).natAbs = (x % (M : Int)).toNat by omega] at this), fr⟩
  ·skip
   intro w12 E
   have f := f.trans E
   have zm := zm.ext E
   refine ⟨?_, ?_⟩
   ·skip
    refine cl0 (ref17_Euclid (ha.ext f) zm (by omega) hx hy) ?_
    intro q1 q2 q3 q4 w13 E hq
    have zr : Zr w13 q3 q4 (x % (M : Nat)) := hq.2.1
    have fr := hq.2.2.imp id fun h c hc => Nat.le_trans f.size (h c hc)
    have f := f.trans E
    intro w14 E
    have f := f.trans E
    have zr := zr.ext E
    intro w15 E
    have f := f.trans E
    have zr := zr.ext E
    intro w16 E
    have f := f.trans E
    have zr := zr.ext E
    exact rt1 (c := .slice) _ f ⟨Rd.at_ (by have := zr.1; rwa [show (x % (M : Int)).natAbs = (x % (M : Int)).toNat by omega] at this), fr⟩
   ·skip
    intro w17 E
    have f := f.trans E
    have zm := zm.ext E
    refine cl0 (ref17_Euclid (ha.ext f) zm (by omega) hx hy) ?_
    intro q1 q2 q3 q4 w18 E hq
    have zr : Zr w18 q3 q4 (x % (M : Nat)) := hq.2.1
    have fr := hq.2.2.imp id fun h c hc => Nat.le_trans f.size (h c hc)
    have f := f.trans E
    intro w19 E
    have f := f.trans E
    have zr := zr.ext E
    intro w20 E
    have f := f.trans E
    have zr := zr.ext E
    exact rt1 (c := .slice) _ f ⟨Rd.at_ (by have := zr.1; rwa [show (x % (M : Int)).natAbs = (x % (M : Int)).toNat by omega] at this), fr⟩
  ·skip
   intro w21 E
   have f := f.trans E
   have zm := zm.ext E
   refine ⟨?_, ?_⟩
   ·skip
    refine cl0 (ref17_Euclid (ha.ext f) zm (by omega) hx hy) ?_
    intro q1 q2 q3 q4 w22 E hq
    have zr : Zr w22 q3 q4 (x % (M : Nat)) := hq.2.1
    have fr := hq.2.2.imp id fun h c hc => Nat.le_trans f.size (h c hc)
    have f := f.trans E
    intro w23 E
    have f := f.trans E
    have zr := zr.ext E
    intro w24 E
    have f := f.trans E
    have zr := zr.ext E
    intro w25 E
    have f := f.trans E
    have zr := zr.ext E
    exact rt1 (c := .slice) _ f ⟨Rd.at_ (by have := zr.1; rwa [show (x % (M : Int)).natAbs = (x % (M : Int)).toNat by omega] at this), fr⟩
   ·skip
    intro w26 E
    have f := f.trans E
    have zm := zm.ext E
    refine cl0 (ref17_Euclid (ha.ext f) zm (by omega) hx hy) ?_
    intro q1 q2 q3 q4 w27 E hq
    have zr : Zr w27 q3 q4 (x % (M : Nat)) := hq.2.1
    have fr := hq.2.2.imp id fun h c hc => Nat.le_trans f.size (h c hc)
    have f := f.trans E
    intro w28 E
    have f := f.trans E
    have zr := zr.ext E
    intro w29 E
    have f := f.trans E
    have zr := zr.ext E
    exact rt1 (c := .slice) _ f ⟨Rd.at_ (by have := zr.1; rwa [show (x % (M : Int)).natAbs = (x % (M : Int)).toNat by omega] at this), fr⟩
 ·skip
  have f := f.drew
  intro w30 E
  have f := f.trans E
  refine ⟨?_, ?_⟩
  ·skip
   refine cl0 (ref17_Nat (hm.ext f)) ?_
   intro p1 p2 w31 E zm
   have zm : Zr w31 p1 p2 (M : Nat) := zm
   have f := f.trans E
   refine ⟨?_, ?_⟩
   ·skip
    refine cl0 (ref17_Euclid (ha.ext f) zm (by omega) hx hy) ?_
    intro q1 q2 q3 q4 w32 E hq
    have zr : Zr w32 q3 q4 (x % (M : Nat)) := hq.2.1
    have fr := hq.2.2.imp id fun h c hc => Nat.le_trans f.size (h c hc)
    have f := f.trans E
    intro w33 E
    have f := f.trans E
    have zr := zr.ext E
    intro w34 E
    have f := f.trans E
    have zr := zr.ext E
    intro w35 E
    have f := f.trans E
    have zr := zr.ext E
    exact rt1 (c := .slice) _ f ⟨Rd.at_ (by have := zr.1; rwa [show (x % (M : Int)).natAbs = (x % (M : Int)).toNat by omega] at this), fr⟩
   ·skip
    intro w36 E
    have f := f.trans E
    have zm := zm.ext E
    refine cl0 (ref17_Euclid (ha.ext f) zm (by omega) hx hy) ?_
    intro q1 q2 q3 q4 w37 E hq
    have zr : Zr w37 q3 q4 (x % (M : Nat)) := hq.2.1
    have fr := hq.2.2.imp id fun h c hc => Nat.le_trans f.size (h c hc)
    have f := f.trans E
    intro w38 E
    have f := f.trans E
    have zr := zr.ext E
    intro w39 E
    have f := f.trans E
    have zr := zr.ext E
    exact rt1 (c := .slice) _ f ⟨Rd.at_ (by have := zr.1; rwa [show (x % (M : Int)).natAbs = (x % (M : Int)).toNat by omega] at this), fr⟩
  ·skip
   intro w40 E
   have f := f.trans E
   refine cl0 (ref17_Nat (hm.ext f)) ?_
   intro p1 p2 w41 E zm
   have zm : Zr w41 p1 p2 (M : Nat) := zm
   have f := f.trans E
   refine cl0 (ref17_Euclid (ha.ext f) zm (by omega) hx hy) ?_
   intro q1 q2 q3 q4 w42 E hq
   have zr : Zr w42 q3 q4 (x % (M : Nat)) := hq.2.1
   have fr := hq.2.2.imp id fun h c hc => Nat.le_trans f.size (h c hc)
   have f := f.trans E
   intro w43 E
   have f := f.trans E
   have zr := zr.ext E
   intro w44 E
   have f := f.trans E
   have zr := zr.ext E
   exact rt1 (c := .slice) _ f ⟨Rd.at_ (by have := zr.1; rwa [show (x % (M : Int)).natAbs = (x % (M : Int)).toNat by omega] at this), fr⟩
 ·skip
  have f := f.drew
  intro w45 E
  have f := f.trans E
  refine ⟨?_, ?_⟩
  ·skip
   refine cl0 (ref17_Nat (hm.ext f)) ?_
   intro p1 p2 w46 E zm
   have zm : Zr w46 p1 p2 (M : Nat) := zm
   have f := f.trans E
   refine ⟨?_, ?_⟩
   ·skip
    refine cl0 (ref17_Euclid (ha.ext f) zm (by omega) hx hy) ?_
    intro q1 q2 q3 q4 w47 E hq
    have zr : Zr w47 q3 q4 (x % (M : Nat)) := hq.2.1
    have fr := hq.2.2.imp id fun h c hc => Nat.le_trans f.size (h c hc)
    have f := f.trans E
    intro w48 E
    have f := f.trans E
    have zr := zr.ext E
    intro w49 E
    have f := f.trans E
    have zr := zr.ext E
    intro w50 E
    have f := f.trans E
    have zr := zr.ext E
    exact rt1 (c := .slice) _ f ⟨Rd.at_ (by have := zr.1; rwa [show (x % (M : Int)).natAbs = (x % (M : Int)).toNat by omega] at this), fr⟩
   ·skip
    intro w51 E
    have f := f.trans E
    have zm := zm.ext E
    refine cl0 (ref17_Euclid (ha.ext f) zm (by omega) hx hy) ?_
    intro q1 q2 q3 q4 w52 E hq
    have zr : Zr w52 q3 q4 (x % (M : Nat)) := hq.2.1
    have fr := hq.2.2.imp id fun h c hc => Nat.le_trans f.size (h c hc)
    have f := f.trans E
    intro w53 E
    have f := f.trans E
    have zr := zr.ext E
    intro w54 E
    have f := f.trans E
    have zr := zr.ext E
    exact rt1 (c := .slice) _ f ⟨Rd.at_ (by have := zr.1; rwa [show (x % (M : Int)).natAbs = (x % (M : Int)).toNat by omega] at this), fr⟩
  ·skip
   intro w55 E
   have f := f.trans E
   refine cl0 (ref17_Nat (hm.ext f)) ?_
   intro p1 p2 w56 E zm
   have zm : Zr w56 p1 p2 (M : Nat) := zm
   have f := f.trans E
   refine cl0 (ref17_Euclid (ha.ext f) zm (by omega) hx hy) ?_
   intro q1 q2 q3 q4 w57 E hq
   have zr : Zr w57 q3 q4 (x % (M : Nat)) := hq.2.1
   have fr := hq.2.2.imp id fun h c hc => Nat.le_trans f.size (h c hc)
   have f := f.trans E
   intro w58 E
   have f := f.trans E
   have zr := zr.ext E
   intro w59 E
   have f := f.trans E
   have zr := zr.ext E
   exact rt1 (c := .slice) _ f ⟨Rd.at_ (by have := zr.1; rwa [show (x % (M : Int)).natAbs = (x % (M : Int)).toNat by omega] at this), fr⟩
def sgd (R M : Nat) : Int := if M < 2 * (R % M) then (R % M : Nat) - (M : Int) else (R % M : Nat)
end Go.Proofs.YticehedkalheiaaGreatDoor.Zg
end

section
namespace Go.Proofs.YticehedkalheiaaGreatDoor.Zg
open Go.RowKit
theorem Rd.lt_blk {w : TW} {s : Sl} {l : List Nat} (h : Rd w s l) (hl : l ≠ []) : ∀ c, s.blk = some c → c < w.w.heap.size := fun c hc => by
 have hne : l.map U ≠ [] := by simpa using hl
 obtain ⟨b, o, hp, _, hcell⟩ := h.rv.2.2.2 hne
 have : c = b := by simp [Sl.blk, hp] at hc; omega
 subst this
 obtain ⟨v, hv⟩ : ∃ v, (l.map U)[0]? = some v := ⟨_, List.getElem?_eq_getElem (List.length_pos_iff.2 hne)⟩
 exact World.block_lt_of_cell? w.w _ (hcell 0 v hv)
end Go.Proofs.YticehedkalheiaaGreatDoor.Zg
end
