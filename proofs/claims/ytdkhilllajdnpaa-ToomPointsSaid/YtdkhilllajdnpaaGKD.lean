/- A part of the proofs of this seat's laws: words, lemmas or contracts of its functions. -/
import Derived.Test.YtdkhilllajdnpaaGKB
import Derived.Test.YtdkhilllajdnpaaGKA
set_option linter.unusedVariables false
set_option linter.unusedSimpArgs false
set_option linter.unnecessarySimpa false
section
namespace Go.Proofs.Ytdkhilllajdnpaa.Zg
open Go.RowKit

/-- A row of cells, from the head of block b on. -/
structure Rw (w : TW) (b : Nat) (vs : List Value) : Prop where
  at_ : ∃ ty, w.w.heap[b]? = some (.cells vs.toArray ty (0, 0))
  V : ¬ w.V b
theorem Rw.lt {w : TW} {b : Nat} {v : List Value} (h : Rw w b v) : b < w.w.heap.size := by obtain ⟨ty, h⟩ := h.at_; exact (Array.getElem?_eq_some_iff.1 h).1
theorem Rw.mv {w : TW} {b k : Nat} {v : List Value} (h : Rw w b v) : Rw (w.at k) b v := ⟨h.at_, h.V⟩
theorem Rw.here {w : TW} {b : Nat} {v : List Value} (h : Rw w b v) : Rw w.here b v := ⟨h.at_, h.V⟩
theorem Rw.extX {w w' : TW} {X : Nat → Prop} {b : Nat} {v : List Value} (h : Rw w b v) (hx : Ext X w w') (hX : ¬ X b) : Rw w' b v :=
  ⟨h.at_.imp fun ty g => (hx.block b h.lt hX (.inr h.V)).trans g, fun hV => (hx.new b hV).elim h.V fun h' => by have := h.lt; omega⟩
theorem Rw.ext {w w' : TW} {b : Nat} {v : List Value} (h : Rw w b v) (hx : Ext none_ w w') : Rw w' b v := h.extX hx fun h => h
theorem Rw.cell {w : TW} {b : Nat} {v : List Value} (h : Rw w b v) (j : Nat) : w.w.cell? ⟨b, j, none⟩ = v[j]? := by
  obtain ⟨ty, h⟩ := h.at_
  rw [cell_of_row w.w b j _ ty (0, 0) h]
  simp
theorem nw_rw {w : TW} {vs : List Value} {ty : TypeId} {K : Nat → TW → Prop} (hK : ∀ b w', Rw w' b vs → b = w.w.heap.size → Ext none_ w w' → K b w') : nwb w vs ty K := fun b w' h => hK b w' ⟨⟨ty, h.heap⟩, fun hV => by rw [h.V] at hV; have := w.lt _ hV; have := h.at_; omega⟩ h.at_ (h.ext _)

theorem addp (b o n : Nat) : (⟨b, o, none⟩ : Addr).add n = ⟨b, o + n, none⟩ := by
  unfold Addr.add
  split
  · next h => subst h; rfl
  · rfl

/-- The state of a closure that counts its calls and checks the lengths (n of them, in W; k numbers a call). -/
def Cst (k n : Nat) (W : List Int) (b4 b3 b2 b1 : Nat) (s : Option Nat) (w : TW) : Prop :=
  Bx w b2 (.slice (some ⟨b1, 0, none⟩) n n) ∧ Rw w b1 (W.map (Value.int .i64)) ∧ W.length = k * n ∧ b1 ≠ b3 ∧ b1 ≠ b4 ∧ b2 ≠ b3 ∧ b2 ≠ b4 ∧ b3 ≠ b4 ∧
  match s with
  | some i => i ≤ n ∧ Bx w b3 (.int .i64 i) ∧ Bx w b4 (.bool true)
  | none => (∃ v, Bx w b3 (.int .i64 v)) ∧ Bx w b4 (.bool false)
theorem Cst.mv {k n : Nat} {W : List Int} {b4 b3 b2 b1 : Nat} {s : Option Nat} {w : TW} {j : Nat} (h : Cst k n W b4 b3 b2 b1 s w) : Cst k n W b4 b3 b2 b1 s (w.at j) := by
  obtain ⟨h1, h2, h3, h4⟩ := h
  refine ⟨h1.mv, h2.mv, h3, h4.1, h4.2.1, h4.2.2.1, h4.2.2.2.1, h4.2.2.2.2.1, ?_⟩
  have h5 := h4.2.2.2.2.2
  cases s with
  | some i => exact ⟨h5.1, h5.2.1.mv, h5.2.2.mv⟩
  | none => exact ⟨h5.1.imp fun _ h => h.mv, h5.2.mv⟩
theorem Cst.extX {k n : Nat} {W : List Int} {b4 b3 b2 b1 : Nat} {s : Option Nat} {w w' : TW} {X : Nat → Prop} (h : Cst k n W b4 b3 b2 b1 s w) (hx : Ext X w w') (g : ¬ X b1 ∧ ¬ X b2 ∧ ¬ X b3 ∧ ¬ X b4) : Cst k n W b4 b3 b2 b1 s w' := by
  obtain ⟨h1, h2, h3, h4⟩ := h
  refine ⟨h1.extX hx g.2.1, h2.extX hx g.1, h3, h4.1, h4.2.1, h4.2.2.1, h4.2.2.2.1, h4.2.2.2.2.1, ?_⟩
  have h5 := h4.2.2.2.2.2
  cases s with
  | some i => exact ⟨h5.1, h5.2.1.extX hx g.2.2.1, h5.2.2.extX hx g.2.2.2⟩
  | none => exact ⟨h5.1.imp fun _ h => h.extX hx g.2.2.1, h5.2.extX hx g.2.2.2⟩
theorem Cst.b3 {k n : Nat} {W : List Int} {b4 b3 b2 b1 : Nat} {s : Option Nat} {w : TW} (h : Cst k n W b4 b3 b2 b1 s w) : (∃ v, Bx w b3 (.int .i64 v)) ∧ ∃ r, Bx w b4 (.bool r) := by
  have h5 := h.2.2.2.2.2.2.2.2
  cases s with
  | some i => exact ⟨⟨_, h5.2.1⟩, _, h5.2.2⟩
  | none => exact ⟨h5.1, _, h5.2⟩

/-- Behind the check: r says whether all is right. -/
def Cmid (k n : Nat) (W : List Int) (b4 b3 b2 b1 : Nat) (s : Option Nat) (good : Nat → Prop) (w0 w : TW) : Prop :=
  ∃ r v, Bx w b4 (.bool r) ∧ Bx w b3 (.int .i64 v) ∧ (∀ i : Nat, s = some i → v = i) ∧ (r = true → ∃ i : Nat, s = some i ∧ i < n) ∧ (∀ i, s = some i → i < n → good i → r = true) ∧ Ext (fun c => c = b4) w0 w

theorem law10_KaraMuls_1 {w : TW} {a b : Sl} {la lb : List Nat} {W : List Int} {b4 b3 b2 b1 : Nat} {s : Option Nat} (ha : Rd w a la) (hb : Rd w b lb) (hat : ∀ c, a.blk = some c → c ≠ b3 ∧ c ≠ b4) (hbt : ∀ c, b.blk = some c → c ≠ b3 ∧ c ≠ b4) (hl : la.length ≤ 1048576) (hm : lb.length ≤ 1048576) (hS : Cst 2 3 W b4 b3 b2 b1 s w) :
    Ct Pg F.zigguratlaw10_KaraMuls_1 [a.v, b.v, .pointer (some ⟨b4, 0, none⟩), .pointer (some ⟨b3, 0, none⟩), .pointer (some ⟨b2, 0, none⟩)] w (fun c => c = b3 ∨ c = b4) [.one .slice] fun (s' : Sl) w' => On w' w.w.heap.size s' (vl W64 la * vl W64 lb) ∧ ∃ s1, Cst 2 3 W b4 b3 b2 b1 s1 w' ∧ ∀ i, s = some i → i < 3 → (la.length : Int) = W.getD (2 * i) 0 → (lb.length : Int) = W.getD (2 * i + 1) 0 → s1 = some (i + 1) := by
  refine Ct.zigguratlaw10_KaraMuls_1 ?_
  unfold Sh.zigguratlaw10_KaraMuls_1
  have na := ha.len
  have nb := hb.len
  obtain ⟨H2, H1, hW, n13, n14, n23, n24, n34, hs⟩ := id hS
  refine j0 (fun w5 => Cmid 2 3 W b4 b3 b2 b1 s (fun i => (la.length : Int) = W.getD (2 * i) 0 ∧ (lb.length : Int) = W.getD (2 * i + 1) 0) w.here w5) ?_ ?_
  · cases s with
    | none =>
      obtain ⟨⟨v, h3⟩, h4⟩ := hs
      refine ⟨false, h4.here.cell, cnd_f rfl (h4.here.put _ fun w4 g4 e4 => ⟨false, v, g4, h3.here.extX e4 n34, (fun i h => by cases h), (fun h => by cases h), (fun i h => by cases h), e4⟩)⟩
    | some i =>
      obtain ⟨hi, h3, h4⟩ := hs
      refine ⟨true, h4.here.cell, cnd_t rfl ⟨(i : Int), h3.here.cell, cnd_d (fun h => ?_) (fun h => ?_)⟩⟩
      · have hi3 : i < 3 := by omega
        have c1 := fun j => (H1.here.cell j)
        have hw0 : (W.map (Value.int .i64))[2 * i]? = some (.int .i64 (W.getD (2 * i) 0)) := by
          rw [List.getElem?_map, List.getElem?_eq_getElem (show 2 * i < W.length by omega)]
          simp [show 2 * i < W.length by omega]
        have hw1 : (W.map (Value.int .i64))[2 * i + 1]? = some (.int .i64 (W.getD (2 * i + 1) 0)) := by
          rw [List.getElem?_map, List.getElem?_eq_getElem (show 2 * i + 1 < W.length by omega)]
          simp [show 2 * i + 1 < W.length by omega]
        refine ⟨⟨some ⟨b1, 0, none⟩, 3, 3⟩, H2.here.cell, (i : Int), h3.here.cell, ?_⟩
        refine ⟨_, rfl, by omega, by omega, by decide, by decide, W.getD (2 * i) 0, ?_, ?_⟩
        · rw [show ((⟨b1, 0, none⟩ : Addr).add ((i : Int).toNat * 2)).add (Int.toNat 0 * 1) = ⟨b1, 2 * i, none⟩ by rw [addp, addp]; congr 1; omega]
          exact (c1 _).trans hw0
        refine cnd_i (fun he => ?_) (fun he => ?_)
        · refine ⟨⟨some ⟨b1, 0, none⟩, 3, 3⟩, H2.here.cell, (i : Int), h3.here.cell, ?_⟩
          refine ⟨_, rfl, by omega, by omega, by decide, by decide, W.getD (2 * i + 1) 0, ?_, ?_⟩
          · rw [show ((⟨b1, 0, none⟩ : Addr).add ((i : Int).toNat * 2)).add (Int.toNat 1 * 1) = ⟨b1, 2 * i + 1, none⟩ by rw [addp, addp]; congr 1; omega]
            exact (c1 _).trans hw1
          refine h4.here.put _ fun w1 g1 e1 => ⟨_, (i : Int), g1, h3.here.extX e1 n34, (fun j hj => by cases hj; rfl), (fun _ => ⟨i, rfl, hi3⟩), fun j hj _ hg => ?_, e1⟩
          cases hj
          rw [nb]
          simpa using hg.2
        · refine h4.here.put _ fun w1 g1 e1 => ⟨_, (i : Int), g1, h3.here.extX e1 n34, (fun j hj => by cases hj; rfl), (fun h => by cases h), fun j hj _ hg => ?_, e1⟩
          cases hj
          rw [na] at he
          have := hg.1
          simp at he
          exact absurd this he
      · refine h4.here.put _ fun w1 g1 e1 => ⟨_, (i : Int), g1, h3.here.extX e1 n34, (fun j hj => by cases hj; rfl), (fun h => by cases h), fun j hj hj3 _ => ?_, e1⟩
        cases hj
        omega
  rintro w5 ⟨r, v, g4, g3, gv, gr, gg, e5⟩
  refine ⟨v, g3.cell, bnd_i (g3.put _ fun w6 f3 e6 => ?_)⟩
  have e56 : Ext (fun c => c = b3 ∨ c = b4) w.here w6 := (e5.weak fun c h => .inr h).trans (e6.weak fun c h => .inl h)
  have g4 := g4.extX e6 fun h => n34 h.symm
  refine c1 (law10_hand (ha.here.extX e56 fun c hc h => h.elim (hat c hc).1 (hat c hc).2) (hb.here.extX e56 fun c hc h => h.elim (hbt c hc).1 (hbt c hc).2) hl hm) fun s' w7 e7 h7 => ?_
  have H1 := (H1.here.extX e56 fun h => h.elim n13 n14).ext e7
  have H2 := (H2.here.extX e56 fun h => h.elim n23 n24).ext e7
  refine rt1 (c := .slice) _ (e56.trans e7.any) ⟨(On.less h7 e56.size).at, ?_⟩
  cases r with
  | false =>
    refine ⟨none, Cst.mv ⟨H2, H1, hW, n13, n14, n23, n24, n34, ⟨_, f3.ext e7⟩, g4.ext e7⟩, fun i hi h3 k1 k2 => ?_⟩
    exact absurd (gg i hi h3 ⟨k1, k2⟩) (by decide)
  | true =>
    obtain ⟨i, hi, h3⟩ := gr rfl
    have := gv i hi
    subst this
    refine ⟨some (i + 1), Cst.mv ⟨H2, H1, hW, n13, n14, n23, n24, n34, by omega, ?_, g4.ext e7⟩, fun j hj _ _ _ => by rw [hi] at hj; cases hj; rfl⟩
    have := f3.ext e7
    rwa [wi_id (by omega) (by omega)] at this
end Go.Proofs.Ytdkhilllajdnpaa.Zg
end

section
namespace Go.Proofs.Ytdkhilllajdnpaa.Zg
open Go.RowKit

theorem law10_KaraMuls {w : TW} {t : HL I11} {a b : Sl} (ha : Arg w a) (hb : Arg w b) : Ct Pg F.zigguratlaw10_KaraMuls [.agg (encs I11 t).toArray, a.v, b.v] w none_ [.one .bool] fun (r : Bool) _ => r = true := by
  obtain ⟨la, ha⟩ := ha
  obtain ⟨lb, hb⟩ := hb
  refine Ct.zigguratlaw10_KaraMuls ?_
  unfold Sh.zigguratlaw10_KaraMuls
  intro w1 e1
  refine cutc (n := 40) (ha.here.ext e1) rfl fun s w2 e2 hs _ => cutc (n := 40) ((hb.here.ext e1).ext e2) rfl fun s1 w3 e3 ht _ => ?_
  have hs := hs.ext e3
  have hx := sz_vl hs.sm
  have hy := sz_vl ht.sm
  have hla : (la.take 40).length ≤ 40 := by simp; omega
  have hlb : (lb.take 40).length ≤ 40 := by simp; omega
  generalize la.take 40 = l at *
  generalize lb.take 40 = m at *
  have e123 := (e1.trans e2).trans e3
  clear e1 e2 e3
  refine c1 (kara_New (t := t)) ?_
  rintro p w4 e4 ⟨k, e, tt, tab, hc, hbt, hne, htab, hm⟩
  have hns : ∀ c, w3.w.heap.size ≤ c → l ≠ [] → s.blk ≠ some c := fun c hc hl => old_blk hs hc hl
  have hnt : ∀ c, w3.w.heap.size ≤ c → m ≠ [] → s1.blk ≠ some c := fun c hc hl => old_blk ht hc hl
  refine cnd_f (by obtain ⟨h, _⟩ := hc; rw [h]; rfl) ?_
  have hsn := hs.len
  have htn := ht.len
  obtain ⟨N, hN⟩ : ∃ N, max l.length m.length = N := ⟨_, rfl⟩
  obtain ⟨M, hM⟩ : ∃ M, min l.length m.length = M := ⟨_, rfl⟩
  obtain ⟨h, hh⟩ : ∃ h, h = (N + 1) / 2 := ⟨_, rfl⟩
  refine bnd_eq (y := (N : Int)) (by split <;> omega) (bnd_eq (y := (M : Int)) (by split <;> omega) ?_)
  refine bnd_wi (by omega) (by omega) (divNi (x := N + 1) (y := 2) (by omega) rfl (by omega) (by decide) ?_)
  rw [← hh]
  refine bnd_wi (by omega) (by omega) (bnd_wi (by omega) (by omega) (bnd_wi (by omega) (by omega) (bnd_wi (by omega) (by omega) ?_)))
  obtain ⟨W, hW⟩ : ∃ W : List Int, W = [(h : Int), h, N - h, M - h, h + 1, h + 1] := ⟨_, rfl⟩
  refine nw_rw fun b1 w5 g1 k1 e5 => nw_bx fun b2 w6 g2 k2 e6 => g2.put _ fun w7 g2 e7 => ?_
  have g1 : Rw w5 b1 (W.map (Value.int .i64)) := by rw [hW]; exact g1
  have tlt := hm.lt
  have hcl := hc.lt
  have z4 := e4.size
  have z5 := e5.size
  have z6 := e6.size
  have z7 := e7.size
  have l1 := g1.lt
  have l2 := g2.lt
  have e57 := (e5.trans e6).own e7 fun c hc => by omega
  have g1 := (g1.ext e6).extX e7 (by omega)
  refine c1 (keep_Lend ((hs.ext e4).ext e57) (by omega)) fun s2 w8 e8 L1 => ?_
  refine c1 (keep_Lend (((ht.ext e4).ext e57).ext e8) (by omega)) fun s3 w9 e9 L2 => ?_
  have z8 := e8.size
  have z9 := e9.size
  refine nw_bx fun b3 w10 g3 k3 e10 => ?_
  have l3 := g3.lt
  refine nw_bx fun b4 w11 g4 k4 e11 => ?_
  have l4 := g4.lt
  have n34 : b3 ≠ b4 := by omega
  refine (g3.ext e11).put _ fun w12 g3 e12 => (g4.extX e12 (by omega)).put _ fun w13 g4 e13 => ?_
  have z10 := e10.size
  have z11 := e11.size
  have z12 := e12.size
  have z13 := e13.size
  have g3 := g3.extX e13 n34
  have L1 := (L1.ext e9)
  have k1' := L1.blk
  have k2' := L2.blk
  have e9d := (((e57.trans e8).trans e9).trans e10).trans e11
  have e4d := (e9d.own e12 fun c hc => by omega).own e13 fun c hc => by omega
  have e9d := (((e10.trans e11).own e12 fun c hc => by omega).own e13 fun c hc => by omega)
  have e7d := (e8.trans e9).trans e9d
  have g1 := g1.ext e7d
  have g2 := g2.ext e7d
  have hs := (hs.ext e4).ext e4d
  have ht := (ht.ext e4).ext e4d
  have hm := hm.ext e4d
  have hc := hc.ext e4d
  have L1 := L1.ext e9d
  have L2 := L2.ext e9d
  have zd := e9d.size
  have hS : Cst 2 3 W b4 b3 b2 b1 (some 0) w13 := ⟨g2, g1, by rw [hW]; rfl, by omega, by omega, by omega, by omega, n34, by omega, g3, g4⟩
  have hI : In2 (.func (.func F.zigguratlaw10_KaraMuls_1) [].toArray [.pointer (some ⟨b4, 0, none⟩), .pointer (some ⟨b3, 0, none⟩), .pointer (some ⟨b2, 0, none⟩)].toArray) tt tab (fun c => c = b3 ∨ c = b4) (Cst 2 3 W b4 b3 b2 b1) (fun _ x y => x ≤ 1048576 ∧ y ≤ 1048576) (fun s m _ d x y s' m' d' => m' = m ∧ d' = d ∧ ∀ i, s = some i → i < 3 → (x : Int) = W.getD (2 * i) 0 → (y : Int) = W.getD (2 * i + 1) 0 → s' = some (i + 1)) := by
    refine ⟨fun h => h.mv, fun h x => h.extX x ⟨by omega, by omega, by omega, by omega⟩, fun h hx => ?_, ?_⟩
    · obtain ⟨⟨_, h3⟩, _, h4⟩ := h.b3
      rcases hx with rfl | rfl
      · exact ⟨h3.lt, h3.V⟩
      · exact ⟨h4.lt, h4.V⟩
    intro w s m now deep a b la lb hm hS ha hb hat hbt hL K hK
    obtain ⟨⟨_, h3⟩, _, h4⟩ := hS.b3
    refine clv_of (by kernel_rfl) (cl_of (law10_KaraMuls_1 ha hb (fun c h => ⟨fun h' => (hat c h).2 (.inl h'), fun h' => (hat c h).2 (.inr h')⟩) (fun c h => ⟨fun h' => (hbt c h).2 (.inl h'), fun h' => (hbt c h).2 (.inr h')⟩) hL.1 hL.2 hS) (fun x hx => hx.elim (fun h => h ▸ h3.V) fun h => h ▸ h4.V) ?_)
    intro x w' hx hpost
    obtain ⟨ho, s1, hS', hq⟩ := hpost
    exact hK x w' _ m deep (hx.weak fun c hc => .inr hc) ho (hm.extX hx fun h => by omega) hS' ⟨rfl, rfl, hq⟩
  have hck : ∀ x ∈ [k, e], x ≠ tt ∧ ¬ (x = b3 ∨ x = b4) := fun x hx => ⟨(hne x hx).2, fun h => by have := hcl x hx; omega⟩
  refine cl_of (kara_Kara (h := h) (s0 := some 0) hI hc hck hm hS L1.rd L2.rd (fun _ h => by have := (k1' _ h).1; omega) (fun _ h => by have := (k2' _ h).1; omega) (by omega) (by omega) (by decide) (by decide) (by rw [hN]; exact hh) fun _ => ⟨by omega, by omega, by omega⟩) (fun x hx => hx.elim (fun h => h ▸ hm.V) fun h => h.elim (fun h => h ▸ g3.V) fun h => h ▸ g4.V) ?_
  rw [hN, hM]
  intro s4 ok w14 x14 hpost
  obtain ⟨q1, q2⟩ := hpost
  have eD := (e123.trans e4).trans e4d
  refine cnd_d (fun hle => ?_) (fun hle => ?_)
  · obtain ⟨rfl, rfl, e14, -, hS14⟩ := q1 (by omega)
    refine j1 (fun (r : Bool) w' => r = true ∧ Ext none_ w.here w') ?_ ?_
    · refine cnd_t rfl ⟨_, hS14.2.2.2.2.2.2.2.2.2.1.cell, cnd_t rfl (cnd_t rfl (wk10 fun w15 e15 => ⟨rfl, (eD.trans e14).trans e15⟩))⟩
    rintro r w' ⟨rfl, f⟩
    exact rt1 (c := .bool) _ f rfl
  have hlt : h < M := by omega
  obtain ⟨rfl, ho, s1', m1, d1, s2', m2, d2, s3', m3, d3, ⟨rfl, rfl, Q1⟩, ⟨rfl, rfl, Q2⟩, ⟨rfl, rfl, Q3⟩, hm14, hS14⟩ := q2 hlt
  have E1 := Q1 0 rfl (by decide) (by rw [hW]; rfl) (by rw [hW]; rfl)
  have E2 := Q2 1 E1 (by decide) (by rw [hW]; show ((N - h : Nat) : Int) = (N : Int) - h; omega) (by rw [hW]; show ((M - h : Nat) : Int) = (M : Int) - h; omega)
  have E3 := Q3 2 E2 (by decide) (by rw [hW]; rfl) (by rw [hW]; rfl)
  subst E3
  obtain ⟨-, -, -, -, -, -, -, -, -, f3, f4⟩ := hS14
  have z14 := x14.size
  have eE : Ext none_ w.here w14 := eD.own x14 fun c hc => by
    have : w.w.heap.size ≤ w3.w.heap.size := e123.size
    show w.w.heap.size ≤ c
    rcases hc with h | h | h <;> omega
  have TT : ∀ c, (c = tt ∨ c = b3 ∨ c = b4) → c < w13.w.heap.size ∧ w3.w.heap.size ≤ c := fun c hc => by rcases hc with h | h | h <;> omega
  have L1 := L1.extX x14 fun c hc h => by have := k1' c hc; rcases h with h | h | h <;> omega
  have L2 := L2.extX x14 fun c hc h => by have := k2' c hc; rcases h with h | h | h <;> omega
  have hs := hs.extN x14 fun hl c hc h => hns c (TT c h).2 hl hc
  have ht := ht.extN x14 fun hl c hc h => hnt c (TT c h).2 hl hc
  have hc := hc.extX x14 fun c hc h => h.elim (hck c hc).1 (hck c hc).2
  have dx := dz_of_sz hx
  have dy := dz_of_sz hy
  refine j1 (fun (r : Bool) w' => r = false ∧ Ext none_ w14 w') ?_ ?_
  · refine cnd_f rfl ⟨_, f3.cell, cnd_f rfl ⟨_, f4.cell, cnd_f rfl ?_⟩⟩
    refine c1 (law10_from hs (by omega)) fun s5 w15 e15 h5 => ?_
    refine c1 (law10_from (ht.ext e15) (by omega)) fun s6 w16 e16 h6 => ?_
    refine c1 (ref_Mul (h5.ext e16).dr h6.dr (by omega) (by omega)) fun s7 w17 e17 h7 => ?_
    have hdz := dz_mul (vl W64 l) (vl W64 m)
    have f := (e15.trans e16).trans e17
    refine sm h7.dr (On.ext ho f) (by omega) rfl fun w18 e18 => cnd_f rfl ?_
    have f := f.trans e18
    refine ch2 (hc.ext f) (c1 (meter_Muls (hm14.ext f)) ?_)
    rintro r w19 e19 rfl
    have f := f.trans e19
    refine cnd_f rfl (ch2 (hc.ext f) (c1 (meter_Deep (hm14.ext f)) ?_))
    rintro r w20 e20 rfl
    have f := f.trans e20
    refine cnd_f rfl (ch2 (hc.ext f) (c1 (meter_Now (hm14.ext f)) ?_))
    rintro r w21 e21 rfl
    exact ⟨rfl, f.trans e21⟩
  rintro r w15 ⟨rfl, e15⟩
  refine cnd_f rfl ?_
  have h4 := On.ext ho e15
  have b4' := fun c hc => (Ow.from_ h4 c hc)
  refine cl_of (keep_Spoil h4) (fun c hc => h4.ow.2 c hc) ?_
  intro w16 x16 _
  have z15 := e15.size
  have e16 := (eE.trans e15).own x16 fun c hc => by
    have := (b4' c hc).1
    have : w.w.heap.size ≤ w13.w.heap.size := eD.size
    show w.w.heap.size ≤ c
    omega
  have L1 := (L1.ext e15).extX x16 fun c hc h => by
    have := (b4' c h).1
    have := (k1' c hc).2
    omega
  have L2 := (L2.ext e15).extX x16 fun c hc h => by
    have := (b4' c h).1
    have := (k2' c hc).2
    omega
  have hs := (hs.ext e15).extN x16 fun hl c hc h => hns c (by have := (b4' c h).1; omega) hl hc
  have ht := (ht.ext e15).extN x16 fun hl c hc h => hnt c (by have := (b4' c h).1; omega) hl hc
  refine j1 (fun (r : Bool) w' => r = true ∧ Ext none_ w.here w') ?_ ?_
  · exact tact L1 hs (Ext.refl _ _) (by omega) fun w17 f17 => cnd_t rfl (tact L2 ht f17 (by omega) fun w18 f18 => cnd_t rfl (wk10 fun w19 e19 => ⟨rfl, (e16.trans f18).trans e19⟩))
  rintro r w' ⟨rfl, f⟩
  exact rt1 (c := .bool) _ f rfl
end Go.Proofs.Ytdkhilllajdnpaa.Zg
end

section
namespace Go.Proofs.Ytdkhilllajdnpaa.Zg
open Go.RowKit

/-- As In2, of a function that tells a square. -/
structure In1 (f : Value) (t : Nat) (tab : List Int) (Y : Nat → Prop) {σ : Type} (St : σ → TW → Prop) (L : Int → Nat → Prop) (Q : σ → Int → Int → Int → Nat → σ → Int → Int → Prop) : Prop where
  mv : ∀ {s : σ} {w : TW} {k : Nat}, St s w → St s (w.at k)
  stay : ∀ {s : σ} {w w' : TW}, St s w → Ext (fun k => k = t) w w' → St s w'
  new : ∀ {s : σ} {w : TW} {b : Nat}, St s w → Y b → b < w.w.heap.size ∧ ¬ w.V b
  call : ∀ {w : TW} {s : σ} {m now deep : Int} {a : Sl} {la : List Nat}, Tn w t m now deep tab → St s w → Rd w a la → (∀ c, a.blk = some c → c ≠ t ∧ ¬ Y c) → L now la.length →
    ∀ {K : Sl → TW → Prop}, (∀ x w' s' m' deep', Ext (fun k => k = t ∨ Y k) w w' → On w' w.w.heap.size x (vl W64 la * vl W64 la) → Tn w' t m' now deep' tab → St s' w' → Q s m now deep la.length s' m' deep' → K x w') → clv Pg f [a.v] w [.one .slice] K

set_option maxHeartbeats 400000 in
theorem kara_KaraSqr {w : TW} {p : Option Addr} {k e t : Nat} {m now deep : Int} {tab : List Int} {f : Value} {Y : Nat → Prop} {σ : Type} {St : σ → TW → Prop} {L : Int → Nat → Prop} {Q : σ → Int → Int → Int → Nat → σ → Int → Int → Prop} {s0 : σ} {a : Sl} {la : List Nat}
    (hI : In1 f t tab Y St L Q) (hc : Chain w p [k, e] t) (hne : ∀ c ∈ [k, e], c ≠ t ∧ ¬ Y c) (hm : Tn w t m now deep tab) (hS : St s0 w) (ha : Rd w a la) (hat : la ≠ [] → a.blk ≠ some t)
    (hla : la.length ≤ 16384) (h0 : 0 ≤ now) (h1 : now ≤ 4611686018427387904) {h : Nat} (hh : h = (la.length + 1) / 2) (hL : 2 ≤ la.length → L (now + 1) h ∧ L (now + 1) (la.length - h) ∧ L (now + 1) (h + 1)) :
    Ct Pg F.kara_Engine_KaraSqr [.pointer p, a.v, f] w (fun k => k = t ∨ Y k) [.one .slice, .one .bool] fun (x : Sl) (ok : Bool) w' =>
      (la.length < 2 → ok = false ∧ x = Sl.nil ∧ Ext none_ w w' ∧ Tn w' t m now deep tab ∧ St s0 w') ∧
      (2 ≤ la.length → ok = true ∧ On w' w.w.heap.size x (vl W64 la * vl W64 la) ∧ ∃ s1 m1 d1 s2 m2 d2 s3 m3 d3, Q s0 m (now + 1) (max deep (now + 1)) h s1 m1 d1 ∧ Q s1 m1 (now + 1) d1 (la.length - h) s2 m2 d2 ∧ Q s2 m2 (now + 1) d2 (h + 1) s3 m3 d3 ∧ Tn w' t m3 now d3 tab ∧ St s3 w') := by
  refine Ct.kara_Engine_KaraSqr ?_
  unfold Sh.kara_Engine_KaraSqr
  have hat' : la ≠ [] → ∀ c, a.blk = some c → ¬ c = t := fun hl c hc h => hat hl (by rw [hc, h])
  have na := ha.len
  obtain ⟨N, hN⟩ : ∃ N, la.length = N := ⟨_, rfl⟩
  rw [hN] at hh hL hla ⊢
  refine cnd_d (fun hle => ?_) (fun hle => ?_)
  · exact rt2 (c := .slice) (d := .bool) Sl.nil false (Ext.refl _ _) ⟨fun _ => ⟨rfl, rfl, ⟨rfl, rfl, rfl, Nat.le_refl _, rfl, fun _ h => h, fun _ h => .inl h, fun _ _ _ _ => rfl, fun _ _ => rfl⟩, hm.here.at, hI.mv (hI.mv hS)⟩, fun h => by omega⟩
  have hlt : 2 ≤ N := by omega
  obtain ⟨L1, L2, L3⟩ := hL hlt
  refine bnd_wi (by omega) (by omega) (divNi (x := N + 1) (y := 2) (by omega) rfl (by omega) (by decide) ?_)
  rw [← hh]
  have T0 : ∀ c, (c = t ∨ Y c) → c < w.w.heap.size := fun c hc => hc.elim (fun h => h ▸ hm.lt) fun h => (hI.new hS h).1
  refine ch2 hc.here ?_
  refine cl_of (meter_Enter hm.here h0 h1) (fun c hc => by subst hc; exact hm.V) ?_
  intro _ w2 x2 hm2
  have hm2 : Tn w2 t m (now + 1) (max deep (now + 1)) tab := hm2
  have hS2 := hI.stay (hI.mv (k := w.w.heap.size) hS) x2
  have hc2 := hc.here.extX x2 fun c hc => (hne c hc).1
  have ha := ha.here.extN x2 hat'
  have z2 : w.w.heap.size ≤ w2.w.heap.size := x2.size
  refine c1 (kara_piece (f := 0) (n := h) ha (by decide) (by omega)) fun p0 w3 e3 q0 => ?_
  refine bnd_eq (y := ((N - h : Nat) : Int)) (by rw [na, hN]; exact (wi_id (by omega) (by omega)).trans (by omega)) ?_
  refine c1 (kara_piece (f := h) (n := N - h) (ha.ext e3) (by omega) (by omega)) fun p1 w4 e4 q1 => ?_
  have q0 := (q0.less z2).ext e4
  have q1 := q1.less (Nat.le_trans z2 e3.size)
  have e26 := e3.trans e4
  clear e3 e4
  have A := vl_split W64 la h (by omega)
  have P0 := pc_vl W64 la 0 h
  have P1 := pc_vl W64 la h (N - h)
  rw [List.drop_zero] at P0
  rw [List.take_of_length_le (by simp; omega)] at P1
  have s0' := sz_vl q0.sm
  have s1' := sz_vl q1.sm
  rw [pc_len] at s0' s1'
  rw [P0] at s0'
  rw [P1] at s1'
  have Nq0 := q0.rd.nt
  have Nq1 := q1.rd.nt
  rw [P0] at Nq0
  rw [P1] at Nq1
  have lq0 := pc_len la 0 h
  have lq1 := pc_len la h (N - h)
  generalize pc la 0 h = PA0 at *
  generalize pc la h (N - h) = PA1 at *
  generalize vl W64 (la.take h) = A0 at *
  generalize vl W64 (la.drop h) = A1 at *
  refine c1 (limb_Add Nq0 Nq1 (by omega) (by omega)) fun sa w7 e7 ga => ?_
  have hsa := sum_sz (h := h) s0' (by omega : sz A1 ≤ h)
  refine bnd_eq (y := ((h + 1 : Nat) : Int)) ((wi_id (by omega) (by omega)).trans (by omega)) ?_
  refine c1 (kara_wide (n := h + 1) ga.rd (by omega)) fun ta w10 e8 va => ?_
  have zz6 := e26.size
  have va := va.less (Nat.le_trans z2 (e26.trans e7).size)
  have e610 := e7.trans e8
  have q0 := q0.ext e610
  have q1 := q1.ext e610
  have e2a := e26.trans e610
  clear e7 e8 ga Nq0 Nq1 ha
  have hm3 := hm2.ext e2a
  have hS3 := hI.stay hS2 e2a.any
  have hc3 := hc2.ext e2a
  have va1 := pc_sum hsa
  have la1 := pc_len (dg W64 (A0 + A1)) 0 (h + 1)
  generalize pc (dg W64 (A0 + A1)) 0 (h + 1) = PA2 at *
  have far : ∀ {w' : TW} {o : Sl} {l : List Nat}, Ow w' w.w.heap.size o l → ∀ c, o.blk = some c → c ≠ t ∧ ¬ Y c := fun h c hc => by
    have := h.blk_le c hc
    exact ⟨fun h' => by have := T0 c (.inl h'); omega, fun h' => by have := T0 c (.inr h'); omega⟩
  have z10 : w.w.heap.size ≤ w10.w.heap.size := Nat.le_trans z2 e2a.size
  refine hI.call hm3 hS3 q0.rd (far q0) (by rw [lq0]; exact L1) fun x1 w11 σ1 m1 d1 x11 o1 hm4 hS4 Q1 => ?_
  have z11 := x11.size
  have q1 := q1.extB x11 T0
  have va := va.extB x11 T0
  refine hI.call hm4 hS4 q1.rd (far q1) (by rw [lq1]; exact L2) fun x3 w12 σ2 m2 d2 x12 o2 hm5 hS5 Q2 => ?_
  have z12 := x12.size
  have va := va.extB x12 T0
  have o1 := (On.less o1 z10).extB x12 T0
  have o2 := On.less o2 (Nat.le_trans z10 z11)
  refine hI.call hm5 hS5 va.rd (far va) (by rw [la1]; exact L3) fun x5 w13 σ3 m3 d3 x13 o3 hm6 hS6 Q3 => ?_
  have z13 := x13.size
  have o1 := Ow.extB o1 x13 T0
  have o2 := Ow.extB o2 x13 T0
  have o3 := On.less o3 (Nat.le_trans (Nat.le_trans z10 z11) z12)
  have xx : Ext (fun k => k = t ∨ Y k) w.here w13 := ((((x2.weak fun b hb => .inl hb).trans e2a.any).trans x11).trans x12).trans x13
  have hc6 := ((hc3.extX x11 fun c hc => fun h => h.elim (hne c hc).1 (hne c hc).2).extX x12 fun c hc => fun h => h.elim (hne c hc).1 (hne c hc).2).extX x13 fun c hc => fun h => h.elim (hne c hc).1 (hne c hc).2
  rw [lq0] at Q1
  rw [lq1] at Q2
  rw [la1] at Q3
  rw [P0] at o1
  rw [P1] at o2
  rw [va1] at o3
  clear x11 x12 x13 hc3 q1 va q0
  refine ch2 hc6 ?_
  refine cl_of (meter_Leave hm6 h0 h1) (fun c hc => by subst hc; exact hm6.V) ?_
  intro _ w14 x14 hm7
  have hm7 : Tn w14 t m3 now d3 tab := hm7
  have hS7 := hI.stay hS6 x14
  have TT : ∀ c, c = t → c < w.w.heap.size := fun c hc => T0 c (.inl hc)
  have o1 := Ow.extB o1 x14 TT
  have o2 := Ow.extB o2 x14 TT
  have o3 := Ow.extB o3 x14 TT
  have s1 := sz_mul A0 A0
  have s2 := sz_mul A1 A1
  have s3 := sz_mul (A0 + A1) (A0 + A1)
  refine c1 (limb_Add (On.nt o1) (On.nt o2) (by omega) (by omega)) fun x6 w15 e15 o4 => ?_
  refine c2 (limb_Sub ((On.nt o3).ext e15) o4.nt (by omega)) ?_
  rintro x7 ok w16 e16 ⟨-, o5⟩
  have e1516 := e15.trans e16
  have s4 := sz_mono (Nat.sub_le ((A0 + A1) * (A0 + A1)) (A0 * A0 + A1 * A1))
  refine nw_rs (ss := [x1, x7, x3]) (xs := [A0 * A0, (A0 + A1) * (A0 + A1) - (A0 * A0 + A1 * A1), A1 * A1]) 3 rfl rfl (by decide) ?_ fun b2 w17 hrs e17 => ?_
  · intro i o hi
    rcases i with _ | _ | _ | i <;> simp at hi
    · subst hi; exact (On.nt o1).ext e1516
    · subst hi; exact o5.nt
    · subst hi; exact (On.nt o2).ext e1516
  refine c1 (limb_Join (s := ⟨some ⟨b2, 0, none⟩, 3, 3⟩) (k := h) hrs (by simp) ?_) fun x8 w18 e18 o8 => ?_
  · intro i
    rcases i with _ | _ | _ | i <;> simp
    · omega
    · omega
    · omega
    · rw [sz0]; omega
  have hmin : min ((h : Int).toNat) 16384 = h := by omega
  rw [hmin] at o8
  have hv : vl (W64 ^ h) [A0 * A0, (A0 + A1) * (A0 + A1) - (A0 * A0 + A1 * A1), A1 * A1] = vl W64 la * vl W64 la := by
    rw [A, ← kara_math]
    simp [vl]
  rw [hv] at o8
  have ee := (e1516.trans e17).trans e18
  refine rt2 (c := .slice) (d := .bool) _ _ ((xx.trans (x14.weak fun b hb => .inl hb)).trans ee.any) ⟨fun h => by omega, fun _ => ⟨rfl, (On.less o8 ?_).at, σ1, m1, d1, σ2, m2, d2, σ3, m3, d3, Q1, Q2, Q3, (hm7.ext ee).at, hI.mv (hI.stay hS7 ee.any)⟩⟩
  have := x14.size
  have := (e1516.trans e17).size
  omega
end Go.Proofs.Ytdkhilllajdnpaa.Zg
end

section
namespace Go.Proofs.Ytdkhilllajdnpaa.Zg
open Go.RowKit

theorem law10_KaraSquares_1 {w : TW} {a : Sl} {la : List Nat} {W : List Int} {b4 b3 b2 b1 : Nat} {s : Option Nat} (ha : Rd w a la) (hat : ∀ c, a.blk = some c → c ≠ b3 ∧ c ≠ b4) (hl : la.length ≤ 1048576) (hS : Cst 1 3 W b4 b3 b2 b1 s w) :
    Ct Pg F.zigguratlaw10_KaraSquares_1 [a.v, .pointer (some ⟨b4, 0, none⟩), .pointer (some ⟨b3, 0, none⟩), .pointer (some ⟨b2, 0, none⟩)] w (fun c => c = b3 ∨ c = b4) [.one .slice] fun (s' : Sl) w' => On w' w.w.heap.size s' (vl W64 la * vl W64 la) ∧ ∃ s1, Cst 1 3 W b4 b3 b2 b1 s1 w' ∧ ∀ i, s = some i → i < 3 → (la.length : Int) = W.getD i 0 → s1 = some (i + 1) := by
  refine Ct.zigguratlaw10_KaraSquares_1 ?_
  unfold Sh.zigguratlaw10_KaraSquares_1
  have na := ha.len
  obtain ⟨H2, H1, hW, n13, n14, n23, n24, n34, hs⟩ := id hS
  refine j0 (fun w5 => Cmid 1 3 W b4 b3 b2 b1 s (fun i => (la.length : Int) = W.getD i 0) w.here w5) ?_ ?_
  · cases s with
    | none =>
      obtain ⟨⟨v, h3⟩, h4⟩ := hs
      refine ⟨false, h4.here.cell, cnd_f rfl (h4.here.put _ fun w4 g4 e4 => ⟨false, v, g4, h3.here.extX e4 n34, (fun i h => by cases h), (fun h => by cases h), (fun i h => by cases h), e4⟩)⟩
    | some i =>
      obtain ⟨hi, h3, h4⟩ := hs
      refine ⟨true, h4.here.cell, cnd_t rfl ⟨(i : Int), h3.here.cell, cnd_d (fun h => ?_) (fun h => ?_)⟩⟩
      · have hi3 : i < 3 := by omega
        have hw0 : (W.map (Value.int .i64))[i]? = some (.int .i64 (W.getD i 0)) := by
          rw [List.getElem?_map, List.getElem?_eq_getElem (show i < W.length by omega)]
          simp [show i < W.length by omega]
        refine ⟨⟨some ⟨b1, 0, none⟩, 3, 3⟩, H2.here.cell, (i : Int), h3.here.cell, ?_⟩
        refine ⟨_, rfl, by omega, by omega, W.getD i 0, ?_, ?_⟩
        · rw [show ((⟨b1, 0, none⟩ : Addr).add ((i : Int).toNat * 1)) = ⟨b1, i, none⟩ by rw [addp]; congr 1; omega]
          exact (H1.here.cell _).trans hw0
        refine h4.here.put _ fun w1 g1 e1 => ⟨_, (i : Int), g1, h3.here.extX e1 n34, (fun j hj => by cases hj; rfl), (fun _ => ⟨i, rfl, hi3⟩), fun j hj _ hg => ?_, e1⟩
        cases hj
        rw [na]
        simpa using hg
      · refine h4.here.put _ fun w1 g1 e1 => ⟨_, (i : Int), g1, h3.here.extX e1 n34, (fun j hj => by cases hj; rfl), (fun h => by cases h), fun j hj hj3 _ => ?_, e1⟩
        cases hj
        omega
  rintro w5 ⟨r, v, g4, g3, gv, gr, gg, e5⟩
  refine ⟨v, g3.cell, bnd_i (g3.put _ fun w6 f3 e6 => ?_)⟩
  have e56 : Ext (fun c => c = b3 ∨ c = b4) w.here w6 := (e5.weak fun c h => .inr h).trans (e6.weak fun c h => .inl h)
  have g4 := g4.extX e6 fun h => n34 h.symm
  have ha6 := ha.here.extX e56 fun c hc h => h.elim (hat c hc).1 (hat c hc).2
  refine c1 (law10_hand ha6 ha6 hl hl) fun s' w7 e7 h7 => ?_
  have H1 := (H1.here.extX e56 fun h => h.elim n13 n14).ext e7
  have H2 := (H2.here.extX e56 fun h => h.elim n23 n24).ext e7
  refine rt1 (c := .slice) _ (e56.trans e7.any) ⟨(On.less h7 e56.size).at, ?_⟩
  cases r with
  | false =>
    refine ⟨none, Cst.mv ⟨H2, H1, hW, n13, n14, n23, n24, n34, ⟨_, f3.ext e7⟩, g4.ext e7⟩, fun i hi h3 k1 => ?_⟩
    exact absurd (gg i hi h3 k1) (by decide)
  | true =>
    obtain ⟨i, hi, h3⟩ := gr rfl
    have := gv i hi
    subst this
    refine ⟨some (i + 1), Cst.mv ⟨H2, H1, hW, n13, n14, n23, n24, n34, by omega, ?_, g4.ext e7⟩, fun j hj _ _ => by rw [hi] at hj; cases hj; rfl⟩
    have := f3.ext e7
    rwa [wi_id (by omega) (by omega)] at this

theorem law10_KaraSquares {w : TW} {t : HL I11} {a : Sl} (ha : Arg w a) : Ct Pg F.zigguratlaw10_KaraSquares [.agg (encs I11 t).toArray, a.v] w none_ [.one .bool] fun (r : Bool) _ => r = true := by
  obtain ⟨la, ha⟩ := ha
  refine Ct.zigguratlaw10_KaraSquares ?_
  unfold Sh.zigguratlaw10_KaraSquares
  intro w1 e1
  refine cutc (n := 40) (ha.here.ext e1) rfl fun s w3 e3 hs _ => ?_
  have hx := sz_vl hs.sm
  have hla : (la.take 40).length ≤ 40 := by simp; omega
  generalize la.take 40 = l at *
  have e123 := e1.trans e3
  clear e1 e3
  refine c1 (kara_New (t := t)) ?_
  rintro p w4 e4 ⟨k, e, tt, tab, hc, hbt, hne, htab, hm⟩
  have hns : ∀ c, w3.w.heap.size ≤ c → l ≠ [] → s.blk ≠ some c := fun c hc hl => old_blk hs hc hl
  refine cnd_f (by obtain ⟨h, _⟩ := hc; rw [h]; rfl) ?_
  have hsn := hs.len
  obtain ⟨N, hN⟩ : ∃ N, l.length = N := ⟨_, rfl⟩
  obtain ⟨h, hh⟩ : ∃ h, h = (N + 1) / 2 := ⟨_, rfl⟩
  refine bnd_wi (by omega) (by omega) (divNi (x := N + 1) (y := 2) (by omega) rfl (by omega) (by decide) ?_)
  rw [← hh]
  refine bnd_eq (y := ((N : Int) - h)) (by rw [hsn, hN]; exact wi_id (by omega) (by omega)) (bnd_wi (by omega) (by omega) ?_)
  obtain ⟨W, hW⟩ : ∃ W : List Int, W = [(h : Int), N - h, h + 1] := ⟨_, rfl⟩
  refine nw_rw fun b1 w5 g1 k1 e5 => nw_bx fun b2 w6 g2 k2 e6 => g2.put _ fun w7 g2 e7 => ?_
  have g1 : Rw w5 b1 (W.map (Value.int .i64)) := by rw [hW]; exact g1
  have tlt := hm.lt
  have hcl := hc.lt
  have z4 := e4.size
  have z5 := e5.size
  have z6 := e6.size
  have z7 := e7.size
  have l1 := g1.lt
  have l2 := g2.lt
  have e57 := (e5.trans e6).own e7 fun c hc => by omega
  have g1 := (g1.ext e6).extX e7 (by omega)
  refine c1 (keep_Lend ((hs.ext e4).ext e57) (by omega)) fun s2 w9 e9 L1 => ?_
  have z9 := e9.size
  refine nw_bx fun b3 w10 g3 k3 e10 => ?_
  have l3 := g3.lt
  refine nw_bx fun b4 w11 g4 k4 e11 => ?_
  have l4 := g4.lt
  have n34 : b3 ≠ b4 := by omega
  refine (g3.ext e11).put _ fun w12 g3 e12 => (g4.extX e12 (by omega)).put _ fun w13 g4 e13 => ?_
  have z10 := e10.size
  have z11 := e11.size
  have z12 := e12.size
  have z13 := e13.size
  have g3 := g3.extX e13 n34
  have k1' := L1.blk
  have e9d := ((e57.trans e9).trans e10).trans e11
  have e4d := (e9d.own e12 fun c hc => by omega).own e13 fun c hc => by omega
  have e9d := (((e10.trans e11).own e12 fun c hc => by omega).own e13 fun c hc => by omega)
  have e7d := e9.trans e9d
  have g1 := g1.ext e7d
  have g2 := g2.ext e7d
  have hs := (hs.ext e4).ext e4d
  have hm := hm.ext e4d
  have hc := hc.ext e4d
  have L1 := L1.ext e9d
  have zd := e9d.size
  have hS : Cst 1 3 W b4 b3 b2 b1 (some 0) w13 := ⟨g2, g1, by rw [hW]; rfl, by omega, by omega, by omega, by omega, n34, by omega, g3, g4⟩
  have hI : In1 (.func (.func F.zigguratlaw10_KaraSquares_1) [].toArray [.pointer (some ⟨b4, 0, none⟩), .pointer (some ⟨b3, 0, none⟩), .pointer (some ⟨b2, 0, none⟩)].toArray) tt tab (fun c => c = b3 ∨ c = b4) (Cst 1 3 W b4 b3 b2 b1) (fun _ x => x ≤ 1048576) (fun s m _ d x s' m' d' => m' = m ∧ d' = d ∧ ∀ i, s = some i → i < 3 → (x : Int) = W.getD i 0 → s' = some (i + 1)) := by
    refine ⟨fun h => h.mv, fun h x => h.extX x ⟨by omega, by omega, by omega, by omega⟩, fun h hx => ?_, ?_⟩
    · obtain ⟨⟨_, h3⟩, _, h4⟩ := h.b3
      rcases hx with rfl | rfl
      · exact ⟨h3.lt, h3.V⟩
      · exact ⟨h4.lt, h4.V⟩
    intro w s m now deep a la hm hS ha hat hL K hK
    obtain ⟨⟨_, h3⟩, _, h4⟩ := hS.b3
    refine clv_of (by kernel_rfl) (cl_of (law10_KaraSquares_1 ha (fun c h => ⟨fun h' => (hat c h).2 (.inl h'), fun h' => (hat c h).2 (.inr h')⟩) hL hS) (fun x hx => hx.elim (fun h => h ▸ h3.V) fun h => h ▸ h4.V) ?_)
    intro x w' hx hpost
    obtain ⟨ho, s1, hS', hq⟩ := hpost
    exact hK x w' _ m deep (hx.weak fun c hc => .inr hc) ho (hm.extX hx fun h => by omega) hS' ⟨rfl, rfl, hq⟩
  have hck : ∀ x ∈ [k, e], x ≠ tt ∧ ¬ (x = b3 ∨ x = b4) := fun x hx => ⟨(hne x hx).2, fun h => by have := hcl x hx; omega⟩
  refine cl_of (kara_KaraSqr (h := h) (s0 := some 0) hI hc hck hm hS L1.rd (fun _ h => by have := (k1' _ h).1; omega) (by omega) (by decide) (by decide) (by rw [hN]; exact hh) fun _ => ⟨by omega, by omega, by omega⟩) (fun x hx => hx.elim (fun h => h ▸ hm.V) fun h => h.elim (fun h => h ▸ g3.V) fun h => h ▸ g4.V) ?_
  rw [hN]
  intro s4 ok w14 x14 hpost
  obtain ⟨q1, q2⟩ := hpost
  have eD := (e123.trans e4).trans e4d
  refine cnd_d (fun hle => ?_) (fun hle => ?_)
  · obtain ⟨rfl, rfl, e14, -, hS14⟩ := q1 (by omega)
    refine j1 (fun (r : Bool) w' => r = true ∧ Ext none_ w.here w') ?_ ?_
    · refine cnd_t rfl ⟨_, hS14.2.2.2.2.2.2.2.2.2.1.cell, cnd_t rfl (cnd_t rfl (wk10 fun w15 e15 => ⟨rfl, (eD.trans e14).trans e15⟩))⟩
    rintro r w' ⟨rfl, f⟩
    exact rt1 (c := .bool) _ f rfl
  have hlt : 2 ≤ N := by omega
  obtain ⟨rfl, ho, s1', m1, d1, s2', m2, d2, s3', m3, d3, ⟨rfl, rfl, Q1⟩, ⟨rfl, rfl, Q2⟩, ⟨rfl, rfl, Q3⟩, hm14, hS14⟩ := q2 hlt
  have E1 := Q1 0 rfl (by decide) (by rw [hW]; rfl)
  have E2 := Q2 1 E1 (by decide) (by rw [hW]; show ((N - h : Nat) : Int) = (N : Int) - h; omega)
  have E3 := Q3 2 E2 (by decide) (by rw [hW]; rfl)
  subst E3
  obtain ⟨-, -, -, -, -, -, -, -, -, f3, f4⟩ := hS14
  have z14 := x14.size
  have eE : Ext none_ w.here w14 := eD.own x14 fun c hc => by
    have : w.w.heap.size ≤ w3.w.heap.size := e123.size
    show w.w.heap.size ≤ c
    rcases hc with h | h | h <;> omega
  have TT : ∀ c, (c = tt ∨ c = b3 ∨ c = b4) → c < w13.w.heap.size ∧ w3.w.heap.size ≤ c := fun c hc => by rcases hc with h | h | h <;> omega
  have L1 := L1.extX x14 fun c hc h => by have := k1' c hc; rcases h with h | h | h <;> omega
  have hs := hs.extN x14 fun hl c hc h => hns c (TT c h).2 hl hc
  have hc := hc.extX x14 fun c hc h => h.elim (hck c hc).1 (hck c hc).2
  have dx := dz_of_sz hx
  refine j1 (fun (r : Bool) w' => r = true ∧ Ext none_ w.here w') ?_ ?_
  · refine cnd_t rfl ⟨_, f3.cell, cnd_t rfl ⟨_, f4.cell, cnd_t rfl ?_⟩⟩
    refine c1 (law10_from hs (by omega)) fun s5 w15 e15 h5 => ?_
    refine c1 (law10_from (hs.ext e15) (by omega)) fun s6 w16 e16 h6 => ?_
    refine c1 (ref_Mul (h5.ext e16).dr h6.dr (by omega) (by omega)) fun s7 w17 e17 h7 => ?_
    have hdz := dz_mul (vl W64 l) (vl W64 l)
    have f := (e15.trans e16).trans e17
    refine sm h7.dr (On.ext ho f) (by omega) rfl fun w18 e18 => cnd_t rfl ?_
    have f := f.trans e18
    refine ch2 (hc.ext f) (c1 (meter_Muls (hm14.ext f)) ?_)
    rintro r w19 e19 rfl
    have f := f.trans e19
    exact cnd_t rfl (tact L1 hs f (by omega) fun w20 f20 => cnd_t rfl (wk10 fun w21 e21 => ⟨rfl, (eE.trans f20).trans e21⟩))
  rintro r w15 ⟨rfl, f⟩
  exact rt1 (c := .bool) _ f rfl
end Go.Proofs.Ytdkhilllajdnpaa.Zg
end

section
namespace Go.Proofs.Ytdkhilllajdnpaa.Zg
open Go.RowKit

/-- Two own rows, of lengths N and M. -/
def Two (B N M : Nat) (a b : Sl) (w0 w : TW) : Prop := ∃ la lb, Ow w B a la ∧ la.length = N ∧ Ow w B b lb ∧ lb.length = M ∧ (∀ c, a.blk = some c → b.blk ≠ some c) ∧ Ext none_ w0 w
theorem Two.setA {B N M : Nat} {a b : Sl} {w0 w : TW} (h : Two B N M a b w0 w) (hB : w0.w.heap.size ≤ B) {i : Int} {j x : Nat} (hi : i = j) (hj : j < N) (hx : x < W64) {y : Int} (hy : y = x) {K : TW → Prop} (hK : ∀ w', Two B N M a b w0 w' → K w') : ixa a i 1 (fun c => stc w c (.int .u64 y) K) := by
  obtain ⟨la, lb, h1, h2, h3, h4, h5, e⟩ := h
  exact h1.store hi (by omega) hx hy fun w' h1' e' => hK w' ⟨_, lb, h1', by simp [h2], h3.extX e' fun c hc h => h5 c h hc, h4, h5, e.own e' fun c hc => Nat.le_trans hB (h1.blk_le c hc)⟩
theorem Two.setB {B N M : Nat} {a b : Sl} {w0 w : TW} (h : Two B N M a b w0 w) (hB : w0.w.heap.size ≤ B) {i : Int} {j x : Nat} (hi : i = j) (hj : j < M) (hx : x < W64) {y : Int} (hy : y = x) {K : TW → Prop} (hK : ∀ w', Two B N M a b w0 w' → K w') : ixa b i 1 (fun c => stc w c (.int .u64 y) K) := by
  obtain ⟨la, lb, h1, h2, h3, h4, h5, e⟩ := h
  exact h3.store hi (by omega) hx hy fun w' h3' e' => hK w' ⟨la, _, h1.extX e' fun c hc h => h5 c hc h, h2, h3', by simp [h4], h5, e.own e' fun c hc => Nat.le_trans hB (h3.blk_le c hc)⟩

theorem law10_KaraGreat {w : TW} {t : HL I11} {n m : Int} (_ : -9223372036854775808 ≤ n ∧ n ≤ 9223372036854775807) (_ : -9223372036854775808 ≤ m ∧ m ≤ 9223372036854775807) : Ct Pg F.zigguratlaw10_KaraGreat [.agg (encs I11 t).toArray, .int .i64 n, .int .i64 m] w none_ [.one .bool] fun (r : Bool) _ => r = true := by
  refine Ct.zigguratlaw10_KaraGreat ?_
  unfold Sh.zigguratlaw10_KaraGreat
  intro w1 e1
  refine c1 (keep_Within (by decide) (by decide)) ?_
  rintro r w2 e2 ⟨r0, r1⟩
  refine bnd_wi (by omega) (by omega) (c1 (keep_Within (by decide) (by decide)) ?_)
  rintro q w3 e3 ⟨q0, q1⟩
  refine bnd_wi (by omega) (by omega) ?_
  obtain ⟨N, hN⟩ : ∃ N : Nat, (1 + r : Int) = N := ⟨(1 + r).toNat, by omega⟩
  obtain ⟨M, hM⟩ : ∃ M : Nat, (1 + q : Int) = M := ⟨(1 + q).toNat, by omega⟩
  rw [hN, hM]
  have e13 := ((e1.trans e2).trans e3).drew
  have z13 : w.here.w.heap.size ≤ w3.drew.w.heap.size := e13.size
  refine ⟨fun a b _ _ _ _ _ _ _ _ _ _ _ w8 => Two w.here.w.heap.size N M a b w.here w8, ⟨?_, ?_⟩, ?_⟩
  · refine mk_u64 (N := N) rfl (by omega) fun a w4 h4 _ e4 k4 => mk_u64 (N := M) rfl (by omega) fun b w5 h5 _ e5 k5 => ⟨_, _, (h4.less z13).ext e5, by simp, h5.less (Nat.le_trans z13 e4.size), by simp, fun c hc h => ?_, (e13.trans e4).trans e5⟩
    have := (h4.from_ c hc).2
    rw [k5] at h
    cases h
    omega
  · refine mk_u64 (N := M) rfl (by omega) fun b w4 h4 _ e4 k4 => mk_u64 (N := N) rfl (by omega) fun a w5 h5 _ e5 k5 => ⟨_, _, h5.less (Nat.le_trans z13 e4.size), by simp, (h4.less z13).ext e5, by simp, fun c hc h => ?_, (e13.trans e4).trans e5⟩
    have := (h4.from_ c h).2
    rw [k5] at hc
    cases hc
    omega
  intro a b _ _ _ _ _ _ _ _ _ _ _ w8 h8
  refine ⟨fun _ _ _ _ _ _ _ _ _ _ _ w9 => Two w.here.w.heap.size N M a b w.here w9, ?_, ?_⟩
  · refine ⟨fun k (i : Int) _ _ _ _ _ _ _ _ _ _ _ w9 => ∃ j : Nat, i = j ∧ k = N - j ∧ Two w.here.w.heap.size N M a b w.here w9, ⟨N, 0, rfl, by omega, h8⟩, ?_⟩
    rintro k (i : Int) _ _ _ _ _ _ _ _ _ _ _ w9 ⟨j, rfl, rfl, h9⟩
    refine cnd_d (fun h => ?_) (fun h => h9)
    exact h9.setA (Nat.le_refl _) rfl (by omega) (x := 18446744073709551615) (by decide) rfl fun w10 h10 => bnd_wi (by omega) (by omega) ⟨N - (j + 1), by omega, j + 1, by omega, rfl, h10⟩
  intro _ _ _ _ _ _ _ _ _ _ _ w9 h9
  refine ⟨fun _ _ _ _ _ _ _ _ _ _ _ w9 => Two w.here.w.heap.size N M a b w.here w9, ?_, ?_⟩
  · refine ⟨fun k (i : Int) _ _ _ _ _ _ _ _ _ _ _ w9 => ∃ j : Nat, i = j ∧ k = M - j ∧ Two w.here.w.heap.size N M a b w.here w9, ⟨M, 0, rfl, by omega, h9⟩, ?_⟩
    rintro k (i : Int) _ _ _ _ _ _ _ _ _ _ _ w9 ⟨j, rfl, rfl, h9⟩
    refine cnd_d (fun h => ?_) (fun h => h9)
    exact h9.setB (Nat.le_refl _) rfl (by omega) (x := 18446744073709551615) (by decide) rfl fun w10 h10 => bnd_wi (by omega) (by omega) ⟨M - (j + 1), by omega, j + 1, by omega, rfl, h10⟩
  intro t1 t2 t3 t4 t5 t6 t7 t8 t9 t10 t11 w10 h10
  obtain ⟨la, lb, ha, -, hb, -, -, e10⟩ := h10
  have ha := ha.rd
  have hb := hb.rd
  refine j1 (fun (r : Bool) w' => r = true ∧ Ext none_ w.here w') ?_ ?_
  · refine c1 (law10_KaraMuls (t := (t1, t2, t3, t4, t5, t6, t7, t8, t9, t10, t11, ())) ⟨_, ha⟩ ⟨_, hb⟩) ?_
    rintro r w11 e11 rfl
    refine cnd_t rfl (c1 (law10_KaraBoth (t := (t1, t2, t3, t4, t5, t6, t7, t8, t9, t10, t11, ())) ⟨_, ha.ext e11⟩ ⟨_, hb.ext e11⟩) ?_)
    rintro r w12 e12 rfl
    refine cnd_t rfl (c1 (law10_KaraSquares (t := (t1, t2, t3, t4, t5, t6, t7, t8, t9, t10, t11, ())) ⟨_, (ha.ext e11).ext e12⟩) ?_)
    rintro r w13 e13 rfl
    exact cnd_t rfl (wk10 fun w14 e14 => ⟨rfl, (((e10.trans e11).trans e12).trans e13).trans e14⟩)
  rintro r w' ⟨rfl, f⟩
  exact rt1 (c := .bool) _ f rfl
end Go.Proofs.Ytdkhilllajdnpaa.Zg
end
