/- A part of the proofs of this seat's laws: words, lemmas or contracts of its functions. -/
import Derived.Test.YticehedkalheiaaGreatDoorGQ
import Derived.Test.YticehedkalheiaaGreatDoorGP2
import Derived.Test.YticehedkalheiaaGreatDoorGA
import Derived.Test.YticehedkalheiaaGreatDoorGKA
import Derived.Test.YticehedkalheiaaGreatDoorGKC
import Derived.Test.YticehedkalheiaaGreatDoorGB
import Derived.Test.YticehedkalheiaaGreatDoorGK
import Derived.Test.YticehedkalheiaaGreatDoorGP
import Derived.Test.YticehedkalheiaaGreatDoorGP1
import Derived.Test.YticehedkalheiaaGreatDoorGP3
import Derived.Test.YticehedkalheiaaGreatDoorGP4
import Derived.Test.YticehedkalheiaaGreatDoorGS
import Derived.Test.YticehedkalheiaaGreatDoorGC
set_option linter.unusedVariables false
set_option linter.unusedSimpArgs false
set_option linter.unnecessarySimpa false
section
namespace Go.Proofs.YticehedkalheiaaGreatDoor.Zg
open Go.RowKit
theorem addp (b o n : Nat) : (⟨b, o, none⟩ : Addr).add n = ⟨b, o + n, none⟩ := by
  unfold Addr.add
  split
  · next h => subst h; rfl
  · rfl
theorem Own.less {w : TW} {B B' : Nat} {e : TypeId} {sz : Nat} {s : Sl} {vs : List Value} (h : Own w B e sz s vs) (hB : B' ≤ B) : Own w B' e sz s vs := by
  obtain ⟨⟨h1, h2⟩, h3⟩ := h
  refine ⟨⟨h1, ?_⟩, h3⟩
  rcases h2 with h2 | ⟨g, cap, cur, hv, hb, r⟩
  · exact .inl h2
  · exact .inr ⟨g, cap, cur, hv, Nat.le_trans hB hb, r⟩
theorem Own.from_ {w : TW} {B : Nat} {e : TypeId} {sz : Nat} {s : Sl} {vs : List Value} (h : Own w B e sz s vs) : ∀ b, s.blk = some b → B ≤ b ∧ b < w.w.heap.size := fun b hb => by
  rcases h.form with ⟨rfl, _⟩ | ⟨g, cur, hp, hB, hg, _⟩
  · simp [Sl.blk] at hb
  · simp [Sl.blk, hp] at hb; subst hb; exact ⟨hB, (Array.getElem?_eq_some_iff.1 hg).1⟩
theorem Own.at {w : TW} {B k : Nat} {e : TypeId} {sz : Nat} {s : Sl} {vs : List Value} (h : Own w B e sz s vs) : Own (w.at k) B e sz s vs := ⟨h.1, h.2⟩
/-- A cell of one's own row is written. -/
theorem Own.put {w : TW} {B : Nat} {e : TypeId} {sz : Nat} {s : Sl} {vs : List Value} (h : Own w B e sz s vs) {b : Nat} (hp : s.p = some ⟨b, 0, none⟩) {j : Nat} (hj : j < vs.length) (x : Value) {K : TW → Prop}
    (hK : ∀ w', Own w' B e sz s (vs.set j x) → Ext (fun c => s.blk = some c) w w' → K w') : stc w ⟨b, j, none⟩ x K := by
  have h1 := h.1.1
  rcases h.form with ⟨hs, hv⟩ | ⟨b', cur, hp', hB, hg, hnc, hcm, hcs, ht, hV⟩
  · rw [hv] at hj; simp at hj
  · rw [hp] at hp'
    cases hp'
    have hlen : (cur.toList.take (s.n * sz)).length = vs.length := by rw [ht]
    have hcur : j < cur.size := by simp at hlen; omega
    have hcell : w.w.cell? ⟨b, j, none⟩ = some cur[j] := by rw [cell_of_row w.w b j cur e (0, 0) hg, Array.getElem?_eq_getElem hcur]
    have hset : (w.w.setCell ⟨b, j, none⟩ x).heap[b]? = some (.cells (cur.set j x hcur) e (0, 0)) := by
      simp [World.setCell, Array.getElem?_modify, hg, Array.setIfInBounds, hcur]
    have hbk : s.blk = some b := by simp [Sl.blk, hp]
    refine ⟨⟨_, hcell⟩, by simp [World.frozen?, hg], hV, hK (w.set ⟨b, j, none⟩ x) ⟨⟨by simpa using h1, .inr ⟨b, s.c, _, by simp [hp], hB, hset, hnc, hcm, by simpa using hcs, ?_⟩⟩, fun c hc => by rw [hbk] at hc; injection hc with hc; subst hc; exact hV⟩ ?_⟩
    · rw [Array.toList_set, List.take_set, ht]
    · exact ⟨rfl, rfl, rfl, by simp [TW.set, World.setCell], rfl, fun _ h => h, fun _ h => .inl h, fun k hk hX _ => Below.heap_setCell w.w _ _ k (fun e => hX (by rw [hbk, e])), fun k hk => setCell_shape _ _ _ _⟩
end Go.Proofs.YticehedkalheiaaGreatDoor.Zg
end

section
namespace Go.Proofs.YticehedkalheiaaGreatDoor.Zg
open Go.RowKit
theorem api_Zero {w : TW} {s : Sl} {x : Nat} (h : Nt w s x) : Ct Pg F.api_Nat_Zero [s.v] w none_ [.one .bool] fun (r : Bool) _ => r = decide (x = 0) := by
  obtain ⟨l, h, rfl⟩ := h
  refine Ct.api_Nat_Zero ?_
  unfold Sh.api_Nat_Zero
  refine c1 (api_Nat_Len h.here) ?_
  rintro r w1 e1 rfl
  refine rt1 (c := .bool) _ e1 ?_
  have := @sz_zero (vl W64 l)
  by_cases hx : vl W64 l = 0
  · rw [this.2 hx]; simp [hx]
  · have : sz (vl W64 l) ≠ 0 := fun h => hx (this.1 h)
    simp [hx]; omega
theorem sz_top {l : List Nat} (hl : Sm W64 l) (h : 0 < vl W64 l) : vl W64 l = vl W64 (l.take (sz (vl W64 l) - 1)) + W64 ^ (sz (vl W64 l) - 1) * l.getD (sz (vl W64 l) - 1) 0 := by
  have hp : 0 < sz (vl W64 l) := by
    rcases Nat.eq_zero_or_pos (sz (vl W64 l)) with h0 | h0
    · rw [sz_zero] at h0; omega
    · exact h0
  have hd := (dg_vl W2 hl).1
  have h1 := vl_take_getD W64 l (sz (vl W64 l) - 1)
  rw [show sz (vl W64 l) - 1 + 1 = sz (vl W64 l) by omega] at h1
  rw [← h1]
  conv => lhs; rw [← vl_dg W2 (vl W64 l), hd]
  rfl
theorem bl_words {l : List Nat} (hl : Sm W64 l) (h : 0 < vl W64 l) : bl (vl W64 l) = bl (l.getD (sz (vl W64 l) - 1) 0) + 64 * (sz (vl W64 l) - 1) := by
  have h1 := sz_top hl h
  have hlow := vl_lt (hl.take (sz (vl W64 l) - 1))
  have hsz := sz_vl hl
  rw [List.length_take, Nat.min_eq_left (by omega)] at hlow
  have htop := sz_le h
  have hB : W64 ^ (sz (vl W64 l) - 1) = 2 ^ (64 * (sz (vl W64 l) - 1)) := by rw [Nat.pow_mul]
  rw [hB] at htop h1 hlow
  generalize l.getD (sz (vl W64 l) - 1) 0 = v at *
  generalize vl W64 (l.take (sz (vl W64 l) - 1)) = low at *
  generalize 64 * (sz (vl W64 l) - 1) = k at *
  rw [bl_shift htop]
  congr 2
  rw [h1, Nat.add_mul_div_left _ _ (Nat.two_pow_pos _), Nat.div_eq_of_lt hlow, Nat.zero_add]
theorem api_Bits {w : TW} {s : Sl} {x : Nat} (h : Nt w s x) (hn : sz x ≤ 1099511627776) : Ct Pg F.api_Nat_Bits [s.v] w none_ [.one (.int .i64)] fun (r : Int) _ => r = bl x := by
  obtain ⟨l, h, rfl⟩ := h
  refine Ct.api_Nat_Bits ?_
  unfold Sh.api_Nat_Bits
  have hl := h.len
  have hsz := sz_vl h.sm
  refine c1 (api_Nat_Len h.here) ?_
  rintro r w1 e1 rfl
  refine cnd_i (fun h0 => ?_) (fun h0 => ?_)
  · refine rt1 (c := .int .i64) _ e1 ?_
    have : sz (vl W64 l) = 0 := by simp at h0; omega
    rw [sz_zero.1 this, bl_zero]; rfl
  · have h0 : sz (vl W64 l) ≠ 0 := fun h => by simp [h] at h0
    have hp : 0 < vl W64 l := by
      rcases Nat.eq_zero_or_pos (vl W64 l) with h | h
      · rw [h, sz0] at h0; omega
      · exact h
    refine bnd_wi (by omega) (by omega) (bnd_wi (by omega) (by omega) (bnd_wi (by omega) (by omega) ?_))
    refine (h.here.ext e1).ix (j := sz (vl W64 l) - 1) (by omega) (by omega) ?_
    have hb := bl_words h.sm hp
    have hv := h.lt (sz (vl W64 l) - 1)
    generalize l.getD (sz (vl W64 l) - 1) 0 = v at *
    refine c1 (bits_Len64 (x := v) hv) ?_
    rintro r w2 e2 rfl
    have hbv : bl v ≤ 64 := bl_pow hv
    refine bnd_wi (by omega) (by omega) (rt1 (c := .int .i64) _ (e1.trans e2) ?_)
    rw [hb]; omega
end Go.Proofs.YticehedkalheiaaGreatDoor.Zg
end

section
namespace Go.Proofs.YticehedkalheiaaGreatDoor.Zg
open Go.RowKit
theorem Rdv.here {w : TW} {k : Nat} {s : Sl} {vs : List Value} (h : Rdv w k s vs) : Rdv w.here k s vs := h
theorem cut_blk {s : Sl} {n : Nat} {k : Nat} : (s.cut 0 n k).p = s.p := by
  simp only [Sl.cut, Nat.zero_mul]
  split
  · rfl
  · cases h : s.p with
    | none => rfl
    | some a => simp [Addr.add]
end Go.Proofs.YticehedkalheiaaGreatDoor.Zg
end

section
namespace Go.Proofs.YticehedkalheiaaGreatDoor.Zg
open Go.RowKit
theorem Rd.lt_blk {w : TW} {s : Sl} {l : List Nat} (h : Rd w s l) (hl : l ≠ []) : ∀ c, s.blk = some c → c < w.w.heap.size := fun c hc => by
  have hne : l.map U ≠ [] := by simpa using hl
  obtain ⟨b, o, hp, _, hcell⟩ := h.rv.2.2.2 hne
  have : c = b := by simp [Sl.blk, hp] at hc; omega
  subst this
  obtain ⟨v, hv⟩ : ∃ v, (l.map U)[0]? = some v := ⟨_, List.getElem?_eq_getElem (List.length_pos_iff.2 hne)⟩
  exact World.block_lt_of_cell? w.w _ (hcell 0 v hv)
end Go.Proofs.YticehedkalheiaaGreatDoor.Zg
end
