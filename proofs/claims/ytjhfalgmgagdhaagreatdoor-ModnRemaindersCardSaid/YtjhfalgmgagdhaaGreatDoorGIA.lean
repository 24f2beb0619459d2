/- A part of the proofs of this seat's laws: words, lemmas or contracts of its functions. -/
import Derived.Test.YtjhfalgmgagdhaaGreatDoorGKC
import Derived.Test.YtjhfalgmgagdhaaGreatDoorGA
import Derived.Test.YtjhfalgmgagdhaaGreatDoorGKA
import Derived.Test.YtjhfalgmgagdhaaGreatDoorGB
import Derived.Test.YtjhfalgmgagdhaaGreatDoorGK
import Derived.Test.YtjhfalgmgagdhaaGreatDoorGQ
import Derived.Test.YtjhfalgmgagdhaaGreatDoorGP
import Derived.Test.YtjhfalgmgagdhaaGreatDoorGP1
import Derived.Test.YtjhfalgmgagdhaaGreatDoorGP3
import Derived.Test.YtjhfalgmgagdhaaGreatDoorGP4
import Derived.Test.YtjhfalgmgagdhaaGreatDoorGS
import Derived.Test.YtjhfalgmgagdhaaGreatDoorGC
import Derived.Test.YtjhfalgmgagdhaaGreatDoorGP2
set_option linter.unusedVariables false
set_option linter.unusedSimpArgs false
set_option linter.unnecessarySimpa false
section
namespace Go.Proofs.YtjhfalgmgagdhaaGreatDoor.Zg
open Go.RowKit
theorem keep_Int {w : TW} {a b : Sl} {na nb : Bool} {A B : Nat} {x y : Nat} (ha : On w A a x) (hb : On w B b y) (hxy : x = y) (hn : na = nb) : Ct Pg F.zigguratkeep_Int [.agg #[a.v, .bool na], .agg #[b.v, .bool nb]] w none_ [.one .bool] fun (r : Bool) _ => r = true := by
 subst hxy hn
 refine Ct.zigguratkeep_Int ?_
 unfold Sh.zigguratkeep_Int
 intro w1 e1 w2 e2
 have e := e1.trans e2
 have ga := (Ow.rd ha).here.ext e
 have gb := (Ow.rd hb).here.ext e
 refine j1 (fun (r : Bool) w' => r = true ∧ Ext none_ w.here w') ?_ ?_
 ·refine cnd_t (by simp) (c1 (keep_Same ga gb) ?_)
  rintro r w3 e3 rfl
  exact ⟨rfl, e.trans e3⟩
 rintro r w' ⟨rfl, f⟩
 exact rt1 (c := .bool) _ f rfl
end Go.Proofs.YtjhfalgmgagdhaaGreatDoor.Zg
end

section
namespace Go.Proofs.YtjhfalgmgagdhaaGreatDoor.Zg
open Go.RowKit
theorem addp (b o n : Nat) : (⟨b, o, none⟩ : Addr).add n = ⟨b, o + n, none⟩ := by
 unfold Addr.add
 split
 ·next h => subst h; rfl
 ·rfl
theorem Own.less {w : TW} {B B' : Nat} {e : TypeId} {sz : Nat} {s : Sl} {vs : List Value} (h : Own w B e sz s vs) (hB : B' ≤ B) : Own w B' e sz s vs := by
 obtain ⟨⟨h1, h2⟩, h3⟩ := h
 refine ⟨⟨h1, ?_⟩, h3⟩
 rcases h2 with h2 | ⟨g, cap, cur, hv, hb, r⟩
 ·exact .inl h2
 ·exact .inr ⟨g, cap, cur, hv, Nat.le_trans hB hb, r⟩
theorem Own.from_ {w : TW} {B : Nat} {e : TypeId} {sz : Nat} {s : Sl} {vs : List Value} (h : Own w B e sz s vs) : ∀ b, s.blk = some b → B ≤ b ∧ b < w.w.heap.size := fun b hb => by
 rcases h.form with ⟨rfl, _⟩ | ⟨g, cur, hp, hB, hg, _⟩
 ·simp [Sl.blk] at hb
 ·simp [Sl.blk, hp] at hb; subst hb; exact ⟨hB, (Array.getElem?_eq_some_iff.1 hg).1⟩
theorem Own.at {w : TW} {B k : Nat} {e : TypeId} {sz : Nat} {s : Sl} {vs : List Value} (h : Own w B e sz s vs) : Own (w.at k) B e sz s vs := ⟨h.1, h.2⟩
theorem Own.put {w : TW} {B : Nat} {e : TypeId} {sz : Nat} {s : Sl} {vs : List Value} (h : Own w B e sz s vs) {b : Nat} (hp : s.p = some ⟨b, 0, none⟩) {j : Nat} (hj : j < vs.length) (x : Value) {K : TW → Prop}
  (hK : ∀ w', Own w' B e sz s (vs.set j x) → Ext (fun c => s.blk = some c) w w' → K w') : stc w ⟨b, j, none⟩ x K := by
 have h1 := h.1.1
 rcases h.form with ⟨hs, hv⟩ | ⟨b', cur, hp', hB, hg, hnc, hcm, hcs, ht, hV⟩
 ·rw [hv] at hj; simp at hj
 ·rw [hp] at hp'
  cases hp'
  have hlen : (cur.toList.take (s.n * sz)).length = vs.length := by rw [ht]
  have hcur : j < cur.size := by simp at hlen; omega
  have hcell : w.w.cell? ⟨b, j, none⟩ = some cur[j] := by rw [cell_of_row w.w b j cur e (0, 0) hg, Array.getElem?_eq_getElem hcur]
  have hset : (w.w.setCell ⟨b, j, none⟩ x).heap[b]? = some (.cells (cur.set j x hcur) e (0, 0)) := by
   simp [World.setCell, Array.getElem?_modify, hg, Array.setIfInBounds, hcur]
  have hbk : s.blk = some b := by simp [Sl.blk, hp]
  refine ⟨⟨_, hcell⟩, by simp [World.frozen?, hg], hV, hK (w.set ⟨b, j, none⟩ x) ⟨⟨by simpa using h1, .inr ⟨b, s.c, _, by simp [hp], hB, hset, hnc, hcm, by simpa using hcs, ?_⟩⟩, fun c hc => by rw [hbk] at hc; injection hc with hc; subst hc; exact hV⟩ ?_⟩
  ·rw [Array.toList_set, List.take_set, ht]
  ·exact ⟨rfl, rfl, rfl, by simp [TW.set, World.setCell], rfl, fun _ h => h, fun _ h => .inl h, fun k hk hX _ => Below.heap_setCell w.w _ _ k (fun e => hX (by rw [hbk, e])), fun k hk => setCell_shape _ _ _ _⟩
end Go.Proofs.YtjhfalgmgagdhaaGreatDoor.Zg
end

section
namespace Go.Proofs.YtjhfalgmgagdhaaGreatDoor.Zg
open Go.RowKit
def Iz (w : TW) (s : Sl) (neg : Bool) (z : Int) : Prop := ∃ v : Nat, Nt w s v ∧ z = if neg then -(v : Int) else v
def Io (w : TW) (B : Nat) (s : Sl) (neg : Bool) (z : Int) : Prop := On w B s z.natAbs ∧ neg = decide (z < 0)
theorem Iz.ext {w w' : TW} {s : Sl} {neg : Bool} {z : Int} (h : Iz w s neg z) (e : Ext none_ w w') : Iz w' s neg z := h.imp fun _ h => ⟨h.1.ext e, h.2⟩
theorem Iz.here {w : TW} {s : Sl} {neg : Bool} {z : Int} (h : Iz w s neg z) : Iz w.here s neg z := h.imp fun _ h => ⟨h.1.here, h.2⟩
theorem Io.iz {w : TW} {B : Nat} {s : Sl} {neg : Bool} {z : Int} (h : Io w B s neg z) : Iz w s neg z := ⟨z.natAbs, h.1.nt, by rw [h.2]; by_cases h0 : z < 0 <;> simp [h0] <;> omega⟩
theorem Io.ext {w w' : TW} {B : Nat} {s : Sl} {neg : Bool} {z : Int} (h : Io w B s neg z) (e : Ext none_ w w') : Io w' B s neg z := ⟨On.ext h.1 e, h.2⟩
theorem Io.less {w : TW} {B B' : Nat} {s : Sl} {neg : Bool} {z : Int} (h : Io w B s neg z) (e : B' ≤ B) : Io w B' s neg z := ⟨On.less h.1 e, h.2⟩
theorem Io.at {w : TW} {B k : Nat} {s : Sl} {neg : Bool} {z : Int} (h : Io w B s neg z) : Io (w.at k) B s neg z := ⟨On.at h.1, h.2⟩
theorem api_Zero {w : TW} {s : Sl} {x : Nat} (h : Nt w s x) : Ct Pg F.api_Nat_Zero [s.v] w none_ [.one .bool] fun (r : Bool) _ => r = decide (x = 0) := by
 obtain ⟨l, h, rfl⟩ := h
 refine Ct.api_Nat_Zero ?_
 unfold Sh.api_Nat_Zero
 refine c1 (api_Nat_Len h.here) ?_
 rintro r w1 e1 rfl
 refine rt1 (c := .bool) _ e1 ?_
 have := @sz_zero (vl W64 l)
 by_cases hx : vl W64 l = 0
 ·rw [this.2 hx]; simp [hx]
 ·have : sz (vl W64 l) ≠ 0 := fun h => hx (this.1 h)
  simp [hx]; omega
theorem sz_top {l : List Nat} (hl : Sm W64 l) (h : 0 < vl W64 l) : vl W64 l = vl W64 (l.take (sz (vl W64 l) - 1)) + W64 ^ (sz (vl W64 l) - 1) * l.getD (sz (vl W64 l) - 1) 0 := by
 have hp : 0 < sz (vl W64 l) := by
  rcases Nat.eq_zero_or_pos (sz (vl W64 l)) with h0 | h0
  ·rw [sz_zero] at h0; omega
  ·exact h0
 have hd := (dg_vl W2 hl).1
 have h1 := vl_take_getD W64 l (sz (vl W64 l) - 1)
 rw [show sz (vl W64 l) - 1 + 1 = sz (vl W64 l) by omega] at h1
 rw [← h1]
 conv => lhs; rw [← vl_dg W2 (vl W64 l), hd]
 rfl
theorem bl_words {l : List Nat} (hl : Sm W64 l) (h : 0 < vl W64 l) : bl (vl W64 l) = bl (l.getD (sz (vl W64 l) - 1) 0) + 64 * (sz (vl W64 l) - 1) := by
 have h1 := sz_top hl h
 have hlow := vl_lt (hl.take (sz (vl W64 l) - 1))
 have hsz := sz_vl hl
 rw [List.length_take, Nat.min_eq_left (by omega)] at hlow
 have htop := sz_le h
 have hB : W64 ^ (sz (vl W64 l) - 1) = 2 ^ (64 * (sz (vl W64 l) - 1)) := by rw [Nat.pow_mul]
 rw [hB] at htop h1 hlow
 generalize l.getD (sz (vl W64 l) - 1) 0 = v at *
 generalize vl W64 (l.take (sz (vl W64 l) - 1)) = low at *
 generalize 64 * (sz (vl W64 l) - 1) = k at *
 rw [bl_shift htop]
 congr 2
 rw [h1, Nat.add_mul_div_left _ _ (Nat.two_pow_pos _), Nat.div_eq_of_lt hlow, Nat.zero_add]
theorem api_Bits {w : TW} {s : Sl} {x : Nat} (h : Nt w s x) (hn : sz x ≤ 1099511627776) : Ct Pg F.api_Nat_Bits [s.v] w none_ [.one (.int .i64)] fun (r : Int) _ => r = bl x := by
 obtain ⟨l, h, rfl⟩ := h
 refine Ct.api_Nat_Bits ?_
 unfold Sh.api_Nat_Bits
 have hl := h.len
 have hsz := sz_vl h.sm
 refine c1 (api_Nat_Len h.here) ?_
 rintro r w1 e1 rfl
 refine cnd_i (fun h0 => ?_) (fun h0 => ?_)
 ·refine rt1 (c := .int .i64) _ e1 ?_
  have : sz (vl W64 l) = 0 := by simp at h0; omega
  rw [sz_zero.1 this, bl_zero]; rfl
 ·have h0 : sz (vl W64 l) ≠ 0 := fun h => by simp [h] at h0
  have hp : 0 < vl W64 l := by
   rcases Nat.eq_zero_or_pos (vl W64 l) with h | h
   ·rw [h, sz0] at h0; omega
   ·exact h
  refine bnd_wi (by omega) (by omega) (bnd_wi (by omega) (by omega) (bnd_wi (by omega) (by omega) ?_))
  refine (h.here.ext e1).ix (j := sz (vl W64 l) - 1) (by omega) (by omega) ?_
  have hb := bl_words h.sm hp
  have hv := h.lt (sz (vl W64 l) - 1)
  generalize l.getD (sz (vl W64 l) - 1) 0 = v at *
  refine c1 (bits_Len64 (x := v) hv) ?_
  rintro r w2 e2 rfl
  have hbv : bl v ≤ 64 := bl_pow hv
  refine bnd_wi (by omega) (by omega) (rt1 (c := .int .i64) _ (e1.trans e2) ?_)
  rw [hb]; omega
theorem num_made {w : TW} {B : Nat} {s : Sl} {v : Nat} {neg : Bool} (h : On w B s v) : Ct Pg F.num_made [s.v, .bool neg] w none_ [.agg [.slice, .bool]] fun (s' : Sl) (neg' : Bool) w' => Io w' B s' neg' (if neg then -(v : Int) else v) ∧ s' = s := by
 refine Ct.num_made ?_
 unfold Sh.num_made
 intro w1 e1
 refine j2 (fun (s' : Sl) (neg' : Bool) w' => Io w' B s' neg' (if neg then -(v : Int) else v) ∧ s' = s ∧ Ext none_ w.here w') ?_ ?_
 ·have h1 : On w1 B s v := On.ext (w := w.here) (Ow.here h) e1
  cases neg with
  | true =>
   refine cnd_t rfl (c1 (api_Zero h1.nt) ?_)
   rintro r w2 e2 rfl
   intro w3 e3
   refine ⟨⟨?_, ?_⟩, rfl, (e1.trans e2).trans e3⟩
   ·rw [if_pos rfl, Int.natAbs_neg, Int.natAbs_natCast]
    exact On.ext (On.ext h1 e2) e3
   ·rw [if_pos rfl]
    by_cases hx : v = 0
    ·simp [hx]
    ·simp [hx]; omega
  | false =>
   refine cnd_f rfl fun w2 e2 => ⟨⟨On.ext h1 e2, by simp⟩, rfl, e1.trans e2⟩
 rintro s' neg' w' ⟨hz, he, e⟩
 exact ⟨(s', neg', ()), rfl, e, hz.at, he⟩
theorem mdd {w : TW} {B : Nat} {s : Sl} {v : Nat} {neg : Bool} (h : On w B s v) {K : Sl → Bool → TW → Prop} (hK : ∀ s' neg' w', Ext none_ w w' → Io w' B s' neg' (if neg then -(v : Int) else v) → K s' neg' w') : cl Pg F.num_made [s.v, .bool neg] w [.agg [.slice, .bool]] K :=
 cl0 (num_made (neg := neg) h) fun s' neg' w' e h => hK s' neg' w' e h.1
theorem num_Of {w : TW} {n : Int} (h1 : -9223372036854775808 ≤ n) (h2 : n ≤ 9223372036854775807) : Ct Pg F.num_Of [.int .i64 n] w none_ [.agg [.slice, .bool]] fun (s' : Sl) (neg' : Bool) w' => Io w' w.w.heap.size s' neg' n := by
 refine Ct.num_Of ?_
 unfold Sh.num_Of
 intro w1 e1
 refine cnd_d (fun h => ?_) (fun h => ?_)
 ·have ha : IntKind.u64.wrap n = n + 18446744073709551616 := by rw [IntKind.wrap_u64]; omega
  have hb : IntKind.u64.wrap (0 - (n + 18446744073709551616)) = (n.natAbs : Int) := by rw [IntKind.wrap_u64]; omega
  refine bnd_eq (y := n + 18446744073709551616) ha (bnd_eq (y := (n.natAbs : Int)) hb ?_)
  refine c1 (limb_One (y := n.natAbs) (by rw [w64]; omega)) fun s w2 e2 g2 => mdd g2 fun r r1 w3 e3 hr => ?_
  intro w4 e4
  rw [if_pos rfl, show -(n.natAbs : Int) = n by omega] at hr
  exact ⟨(r, r1, ()), rfl, ((e1.trans e2).trans e3).trans e4, ((hr.ext e4).less e1.size).at⟩
 ·refine bnd_wu' (y := n.natAbs) (by omega) (by rw [w64]; omega) ?_
  refine c1 (limb_One (y := n.natAbs) (by rw [w64]; omega)) fun s w2 e2 g2 => mdd g2 fun r r1 w3 e3 hr => ?_
  intro w4 e4
  rw [if_neg (by decide), show (n.natAbs : Int) = n by omega] at hr
  exact ⟨(r, r1, ()), rfl, ((e1.trans e2).trans e3).trans e4, ((hr.ext e4).less e1.size).at⟩
end Go.Proofs.YtjhfalgmgagdhaaGreatDoor.Zg
end

section
namespace Go.Proofs.YtjhfalgmgagdhaaGreatDoor.Zg
open Go.RowKit
theorem Rdv.extN {w w' : TW} {k : Nat} {s : Sl} {vs : List Value} (h : Rdv w k s vs) (e : Ext none_ w w') : Rdv w' k s vs := by
 obtain ⟨h1, h2, h3, h4⟩ := h
 refine ⟨h1, h2, h3, fun hne => ?_⟩
 obtain ⟨b, o, hp, hV, hc⟩ := h4 hne
 have hb : b < w.w.heap.size := by
  obtain ⟨v, hv⟩ : ∃ v, vs[0]? = some v := ⟨_, List.getElem?_eq_getElem (List.length_pos_iff.2 hne)⟩
  exact World.block_lt_of_cell? w.w _ (hc 0 v hv)
 exact ⟨b, o, hp, fun hV' => (e.new b hV').elim hV fun h => by omega, fun j v hj => (World.cell?_of_block (e.block b hb (fun h => h) (.inr hV))).trans (hc j v hj)⟩
theorem Rdv.here {w : TW} {k : Nat} {s : Sl} {vs : List Value} (h : Rdv w k s vs) : Rdv w.here k s vs := h
end Go.Proofs.YtjhfalgmgagdhaaGreatDoor.Zg
end

section
namespace Go.Proofs.YtjhfalgmgagdhaaGreatDoor.Zg
open Go.RowKit
theorem ref02_Mod {w : TW} {s t : Sl} {x y : Nat} (hs : Dr w s x) (ht : Dr w t y) (hy : 0 < y) (hx : dz x ≤ 134217728) (hyd : dz y ≤ 134217728) : Ct Pg F.zigguratref02_Mod [s.v, t.v] w none_ [.one .slice] fun (r : Sl) w' => Dr w' r (x % y) ∧ (r = s ∨ ∀ c, r.blk = some c → w.w.heap.size ≤ c) := by
 refine Ct.zigguratref02_Mod ?_
 unfold Sh.zigguratref02_Mod
 refine c2 (ref_DivMod' hs.here ht.here hy hx hyd) ?_
 rintro q r w1 e1 ⟨⟨_, h2⟩, _, h3⟩
 exact rt1 (c := .slice) _ e1 ⟨Rd.at_ h2, h3⟩
def sgd (R M : Nat) : Int := if M < 2 * (R % M) then (R % M : Nat) - (M : Int) else (R % M : Nat)
end Go.Proofs.YtjhfalgmgagdhaaGreatDoor.Zg
end

section
namespace Go.Proofs.YtjhfalgmgagdhaaGreatDoor.Zg
open Go.RowKit
theorem Rd.lt_blk {w : TW} {s : Sl} {l : List Nat} (h : Rd w s l) (hl : l ≠ []) : ∀ c, s.blk = some c → c < w.w.heap.size := fun c hc => by
 have hne : l.map U ≠ [] := by simpa using hl
 obtain ⟨b, o, hp, _, hcell⟩ := h.rv.2.2.2 hne
 have : c = b := by simp [Sl.blk, hp] at hc; omega
 subst this
 obtain ⟨v, hv⟩ : ∃ v, (l.map U)[0]? = some v := ⟨_, List.getElem?_eq_getElem (List.length_pos_iff.2 hne)⟩
 exact World.block_lt_of_cell? w.w _ (hcell 0 v hv)
end Go.Proofs.YtjhfalgmgagdhaaGreatDoor.Zg
end
