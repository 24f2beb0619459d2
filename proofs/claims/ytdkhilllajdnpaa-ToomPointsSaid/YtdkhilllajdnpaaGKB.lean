/- A part of the proofs of this seat's laws: words, lemmas or contracts of its functions. -/
import Derived.Test.YtdkhilllajdnpaaGKA
import Derived.Test.YtdkhilllajdnpaaGP
set_option linter.unusedVariables false
set_option linter.unusedSimpArgs false
set_option linter.unnecessarySimpa false
section
namespace Go.Proofs.Ytdkhilllajdnpaa.Zg
open Go.RowKit

/-- A variable of one cell, in block b. -/
structure Bx (w : TW) (b : Nat) (v : Value) : Prop where
  at_ : ∃ ty, w.w.heap[b]? = some (.cells #[v] ty (0, 0))
  V : ¬ w.V b
theorem Bx.lt {w : TW} {b : Nat} {v : Value} (h : Bx w b v) : b < w.w.heap.size := by obtain ⟨ty, h⟩ := h.at_; exact (Array.getElem?_eq_some_iff.1 h).1
theorem Bx.mv {w : TW} {b k : Nat} {v : Value} (h : Bx w b v) : Bx (w.at k) b v := ⟨h.at_, h.V⟩
theorem Bx.here {w : TW} {b : Nat} {v : Value} (h : Bx w b v) : Bx w.here b v := ⟨h.at_, h.V⟩
theorem Bx.extX {w w' : TW} {X : Nat → Prop} {b : Nat} {v : Value} (h : Bx w b v) (hx : Ext X w w') (hX : ¬ X b) : Bx w' b v :=
  ⟨h.at_.imp fun ty g => (hx.block b h.lt hX (.inr h.V)).trans g, fun hV => (hx.new b hV).elim h.V fun h' => by have := h.lt; omega⟩
theorem Bx.ext {w w' : TW} {b : Nat} {v : Value} (h : Bx w b v) (hx : Ext none_ w w') : Bx w' b v := h.extX hx fun h => h
theorem Bx.cell {w : TW} {b : Nat} {v : Value} (h : Bx w b v) : w.w.cell? ⟨b, 0, none⟩ = some v := by
  obtain ⟨ty, h⟩ := h.at_
  rw [cell_of_row w.w b 0 _ ty (0, 0) h]
  rfl
theorem Bx.put {w : TW} {b : Nat} {v : Value} (h : Bx w b v) (x : Value) {K : TW → Prop} (hK : ∀ w', Bx w' b x → Ext (fun k => k = b) w w' → K w') : stc w ⟨b, 0, none⟩ x K := by
  obtain ⟨ty, g⟩ := h.at_
  refine ⟨⟨v, h.cell⟩, by simp [World.frozen?, g], h.V, hK (w.set ⟨b, 0, none⟩ x) ⟨⟨ty, ?_⟩, h.V⟩ ⟨rfl, rfl, rfl, by simp [TW.set, World.setCell], rfl, fun _ h => h, fun _ h => .inl h, fun k _ hX _ => Below.heap_setCell w.w _ _ k hX, fun k _ => setCell_shape _ _ _ _⟩⟩
  simp [TW.set, World.setCell, Array.getElem?_modify, g, Array.setIfInBounds]
theorem Bx.new {w w' : TW} {b : Nat} {v : Value} {ty : TypeId} (h : New w b [v] ty w') : Bx w' b v :=
  ⟨⟨ty, h.heap⟩, fun hV => by rw [h.V] at hV; have := w.lt _ hV; have := h.at_; omega⟩
/-- A new variable. -/
theorem nw_bx {w : TW} {v : Value} {ty : TypeId} {K : Nat → TW → Prop} (hK : ∀ b w', Bx w' b v → b = w.w.heap.size → Ext none_ w w' → K b w') : nwb w [v] ty K := fun b w' h => hK b w' (Bx.new h) h.at_ (h.ext _)

theorem law10_from {w : TW} {s : Sl} {l : List Nat} (hs : Rd w s l) (hn : l.length ≤ 1048576) : Ct Pg F.zigguratlaw10_from [s.v] w none_ [.one .slice] fun (s' : Sl) w' => Dn w' w.w.heap.size s' (vl W64 l) := by
  refine Ct.zigguratlaw10_from ?_
  unfold Sh.zigguratlaw10_from
  have := hs.len
  refine c1 (ref_From hs.here.nt (by omega)) ?_
  intro s' w' e h
  exact rt1 (c := .slice) _ e h.at
theorem law10_hand {w : TW} {s t : Sl} {l m : List Nat} (hs : Rd w s l) (ht : Rd w t m) (hl : l.length ≤ 1048576) (hm : m.length ≤ 1048576) : Ct Pg F.zigguratlaw10_hand [s.v, t.v] w none_ [.one .slice] fun (s' : Sl) w' => On w' w.w.heap.size s' (vl W64 l * vl W64 m) := by
  refine Ct.zigguratlaw10_hand ?_
  unfold Sh.zigguratlaw10_hand
  have hx := dz_of_sz (sz_vl hs.sm)
  have hy := dz_of_sz (sz_vl ht.sm)
  have hxy := dz_mul (vl W64 l) (vl W64 m)
  refine c1 (law10_from hs.here hl) fun s1 w1 e1 h1 => ?_
  refine c1 (law10_from (ht.here.ext e1) hm) fun s2 w2 e2 h2 => ?_
  refine c1 (ref_Mul (h1.ext e2).dr h2.dr (by omega) (by omega)) fun s3 w3 e3 h3 => ?_
  refine c1 (ref_To h3.dr (by omega)) fun s4 w4 e4 h4 => ?_
  exact rt1 (c := .slice) _ (((e1.trans e2).trans e3).trans e4) (On.at (On.less h4 ((e1.trans e2).trans e3).size))

theorem law10_wakes_1 {w : TW} {s t : Sl} {l m : List Nat} {b : Nat} {n : Int} (hs : Rd w s l) (ht : Rd w t m) (hsb : s.blk ≠ some b) (htb : t.blk ≠ some b) (hl : l.length ≤ 1048576) (hm : m.length ≤ 1048576) (hb : Bx w b (.int .i64 n)) : Ct Pg F.zigguratlaw10_wakes_1 [s.v, t.v, .pointer (some ⟨b, 0, none⟩)] w (fun k => k = b) [.one .slice] fun (s' : Sl) w' => On w' w.w.heap.size s' (vl W64 l * vl W64 m) ∧ Bx w' b (.int .i64 (wi (wi (10 * n) + l.length))) := by
  refine Ct.zigguratlaw10_wakes_1 ?_
  unfold Sh.zigguratlaw10_wakes_1
  refine ⟨n, hb.here.cell, bnd_i (bnd_eq (y := wi (wi (10 * n) + l.length)) (by rw [hs.len]) (hb.here.put _ fun w1 h1 e1 => ?_))⟩
  refine c1 (law10_hand (hs.here.extX e1 fun c hc h => hsb (by rw [hc, h])) (ht.here.extX e1 fun c hc h => htb (by rw [hc, h])) hl hm) fun s' w2 e2 h2 => ?_
  exact rt1 (c := .slice) _ (e1.trans e2.any) ⟨(On.less h2 e1.size).at, (h1.ext e2).mv⟩

theorem law10_wakes {w : TW} : Ct Pg F.zigguratlaw10_wakes [] w none_ [.one .bool] fun (r : Bool) _ => r = true := by
  refine Ct.zigguratlaw10_wakes ?_
  unfold Sh.zigguratlaw10_wakes
  refine c1 (kara_New (t := ((0 : Int), (0 : Int), (0 : Int), (0 : Int), (0 : Int), (0 : Int), (0 : Int), (0 : Int), (0 : Int), (0 : Int), (0 : Int), ()))) ?_
  rintro p w1 e1 ⟨k, e, b, tab, hc, hbt, hne, _, hm⟩
  have hlt := hm.lt
  refine cnd_f (by obtain ⟨h, _⟩ := hc; rw [h]; rfl) ?_
  refine nw_bx fun c w2 hb1 hb2 e2 => hb1.put _ fun w3 hb3 e3 => ?_
  have e3 := e2.own e3 fun x hx => by subst hx; omega
  refine nw_u64s (l := [1, 2, 3, 4]) 4 rfl (sm_of (by decide)) (by decide) fun b1 w4 h1 e4 => nw_u64s (l := [5, 6, 7, 8]) 4 rfl (sm_of (by decide)) (by decide) fun b2 w5 h2 e5 => ?_
  have e45 := e4.trans e5
  have ee := e3.trans e45
  have h1 := h1.ext e5
  have z3 := e3.size
  have z4 := e4.size
  have k1 : ∀ x, (⟨some ⟨b1, 0, none⟩, 4, 4⟩ : Sl).blk = some x → x ≠ b ∧ x ≠ c := fun x hx => by have := Ow.blk_le h1 x hx; have := hb3.lt; omega
  have k2 : ∀ x, (⟨some ⟨b2, 0, none⟩, 4, 4⟩ : Sl).blk = some x → x ≠ b ∧ x ≠ c := fun x hx => by have := Ow.blk_le h2 x hx; have := hb3.lt; omega
  have hcb : c ≠ b := by omega
  have hI : In2 (.func (.func F.zigguratlaw10_wakes_1) [].toArray [.pointer (some ⟨c, 0, none⟩)].toArray) b tab (fun x => x = c) (fun (n : Int) w => Bx w c (.int .i64 n)) (fun _ x y => x ≤ 1048576 ∧ y ≤ 1048576) (fun n _ _ _ x _ n' _ _ => n' = wi (wi (10 * n) + x)) := by
    refine ⟨fun h => h.mv, fun h x => h.extX x hcb, fun h hx => by subst hx; exact ⟨h.lt, h.V⟩, ?_⟩
    intro w s m now deep a b la lb hm hS ha hb hat hbt hL K hK
    refine clv_of (by kernel_rfl) (cl_of (law10_wakes_1 ha hb (fun h => (hat c h).2 rfl) (fun h => (hbt c h).2 rfl) hL.1 hL.2 hS) (fun x hx => by subst hx; exact hS.V) ?_)
    intro x w' hx hpost
    obtain ⟨ho, hS'⟩ := hpost
    exact hK x w' _ m deep (hx.weak fun c hc => .inr hc) ho (hm.extX hx fun h => hcb h.symm) hS' rfl
  have hck : ∀ x ∈ [k, e], x ≠ b ∧ ¬ x = c := fun x hx => ⟨(hne x hx).2, fun h => by have := (hc.lt x hx); omega⟩
  refine cl_of (kara_Kara (a := ⟨some ⟨b1, 0, none⟩, 4, 4⟩) (b := ⟨some ⟨b2, 0, none⟩, 4, 4⟩) (la := [1, 2, 3, 4]) (lb := [5, 6, 7, 8]) (h := 2) (s0 := (0 : Int)) hI (hc.ext ee) hck (hm.ext ee) (hb3.ext e45) h1.rd h2.rd (fun _ h => (k1 _ h).1 rfl) (fun _ h => (k2 _ h).1 rfl) (by decide) (by decide) (by decide) (by decide) rfl fun _ => ⟨by decide, by decide, by decide⟩) (fun x hx => hx.elim (fun h => by subst h; exact (hm.ext ee).V) fun h => by subst h; exact (hb3.ext e45).V) ?_
  intro x ok w6 x6 hpost
  obtain ⟨rfl, ho, s1, m1, d1, s2, m2, d2, s3, m3, d3, rfl, rfl, rfl, hm6, hS6⟩ := hpost.2 (by decide)
  have e6 : Ext none_ w.here w6 := ((e1.trans ee).own x6 fun y hy => hy.elim (fun h => by subst h; exact hbt) fun h => by subst h; have := e1.size; omega)
  refine j1 (fun (r : Bool) w' => r = true ∧ Ext none_ w.here w') ?_ ?_
  · refine cnd_t rfl ⟨_, hS6.cell, cnd_t (by decide) ?_⟩
    refine nw_u64s (l := [1, 2, 3, 4]) 4 rfl (sm_of (by decide)) (by decide) fun b3 w7 h3 e7 => ?_
    refine c1 (law10_from (s := ⟨some ⟨b3, 0, none⟩, 4, 4⟩) h3.rd (by decide)) fun s3 w8 e8 h8 => ?_
    refine nw_u64s (l := [5, 6, 7, 8]) 4 rfl (sm_of (by decide)) (by decide) fun b4 w9 h9 e9 => ?_
    refine c1 (law10_from (s := ⟨some ⟨b4, 0, none⟩, 4, 4⟩) h9.rd (by decide)) fun s4 w10 e10 h10 => ?_
    have hx := dz_of_sz (sz_vl h3.sm)
    have hy := dz_of_sz (sz_vl h9.sm)
    simp only [List.length_cons, List.length_nil] at hx hy
    have hxy := dz_mul (vl W64 [1, 2, 3, 4]) (vl W64 [5, 6, 7, 8])
    refine c1 (ref_Mul ((h8.ext e9).ext e10).dr h10.dr (by omega) (by omega)) fun s5 w11 e11 h11 => ?_
    have f := (((e7.trans e8).trans e9).trans e10).trans e11
    exact sm h11.dr (On.ext ho f) (by omega) rfl fun w12 e12 => ⟨rfl, (e6.trans f).trans e12⟩
  rintro r w' ⟨rfl, f⟩
  exact rt1 (c := .bool) _ f rfl
end Go.Proofs.Ytdkhilllajdnpaa.Zg
end

section
namespace Go.Proofs.Ytdkhilllajdnpaa.Zg
open Go.RowKit

theorem wk10 {w : TW} {K : Bool → TW → Prop} (hK : ∀ w', Ext none_ w w' → K true w') : cl Pg F.zigguratlaw10_wakes [] w [.one .bool] K := by
  refine c1 law10_wakes ?_
  rintro r w' e rfl
  exact hK w' e

theorem law10_KaraBoth {w : TW} {t : HL I11} {a b : Sl} (ha : Arg w a) (hb : Arg w b) : Ct Pg F.zigguratlaw10_KaraBoth [.agg (encs I11 t).toArray, a.v, b.v] w none_ [.one .bool] fun (r : Bool) _ => r = true := by
  obtain ⟨la, ha⟩ := ha
  obtain ⟨lb, hb⟩ := hb
  refine Ct.zigguratlaw10_KaraBoth ?_
  unfold Sh.zigguratlaw10_KaraBoth
  intro w1 e1
  refine cutc (n := 60) (ha.here.ext e1) rfl fun s w2 e2 hs _ => cutc (n := 60) ((hb.here.ext e1).ext e2) rfl fun s1 w3 e3 ht _ => ?_
  have hs := hs.ext e3
  have hx := sz_vl hs.sm
  have hy := sz_vl ht.sm
  have hla : (la.take 60).length ≤ 60 := by simp; omega
  have hlb : (lb.take 60).length ≤ 60 := by simp; omega
  generalize la.take 60 = l at *
  generalize lb.take 60 = m at *
  have e123 := (e1.trans e2).trans e3
  refine c1 (kara_New (t := t)) ?_
  rintro p w4 e4 ⟨k, e, b, tab, hc, hbt, hne, htab, hm⟩
  have hns : ∀ c, w3.w.heap.size ≤ c → l ≠ [] → s.blk ≠ some c := fun c hc hl => old_blk hs hc hl
  have hnt : ∀ c, w3.w.heap.size ≤ c → m ≠ [] → s1.blk ≠ some c := fun c hc hl => old_blk ht hc hl
  refine cnd_f (by obtain ⟨h, _⟩ := hc; rw [h]; rfl) ?_
  refine c1 (keep_Lend (hs.ext e4) (by omega)) ?_
  intro s2 w5 e5 L1
  refine c1 (keep_Lend ((ht.ext e4).ext e5) (by omega)) ?_
  intro s3 w6 e6 L2
  have L1 := L1.ext e6
  have hb4 := hm.lt
  have e56 := e5.trans e6
  have hs := (hs.ext e4).ext e56
  have ht := (ht.ext e4).ext e56
  have hm := hm.ext e56
  have hc := hc.ext e56
  have k1 := L1.blk
  have k2 := L2.blk
  have z5 := e5.size
  have z4 := e4.size
  have z6 := e6.size
  refine cl_of (kara_Both htab (fun c hc => (hne c hc).2) 60 hc hm L1.rd L2.rd (fun _ h => by have := (L1.blk _ h).1; omega) (fun _ h => by have := (L2.blk _ h).1; omega) hla hlb (by decide) (by decide) (by decide)) (fun c hc => by subst hc; exact hm.V) ?_
  intro s4 w7 x7 hpost
  obtain ⟨h4, m7, d7, hm7⟩ := hpost
  have e7 := ((e123.trans e4).trans e56).own x7 fun c hc => by subst hc; exact Nat.le_trans e123.size hbt
  have L1 := L1.extB x7 fun c hc => by omega
  have L2 := L2.extB x7 fun c hc => by omega
  have hs := hs.extN x7 fun hl c hc h => hns c (by omega) hl hc
  have ht := ht.extN x7 fun hl c hc h => hnt c (by omega) hl hc
  have hc := hc.extX x7 fun c hc => (hne c hc).2
  have z7 := x7.size
  have dx := dz_of_sz hx
  have dy := dz_of_sz hy
  refine j1 (fun (r : Bool) w' => r = false ∧ Ext none_ w7 w') ?_ ?_
  · refine c1 (law10_from hs (by omega)) ?_
    intro s5 w8 e8 h5
    refine c1 (law10_from (ht.ext e8) (by omega)) ?_
    intro s6 w9 e9 h6
    refine c1 (ref_Mul (h5.ext e9).dr h6.dr (by omega) (by omega)) ?_
    intro s7 w10 e10 h7
    have hdz := dz_mul (vl W64 l) (vl W64 m)
    refine sm h7.dr (((On.ext h4 e8).ext e9).ext e10) (by omega) rfl fun w11 e11 => cnd_f rfl ?_
    have f := ((e8.trans e9).trans e10).trans e11
    refine ch2 (hc.ext f) ?_
    refine c1 (meter_Now (hm7.ext f)) ?_
    rintro r w12 e12 rfl
    exact ⟨rfl, f.trans e12⟩
  rintro r w8 ⟨rfl, e8⟩
  refine cnd_f rfl ?_
  have h4 := On.ext h4 e8
  have b4 := fun c hc => (Ow.from_ h4 c hc)
  refine cl_of (keep_Spoil h4) (fun c hc => h4.ow.2 c hc) ?_
  intro w9 x9 _
  have z8 := e8.size
  have e9 := (e7.trans e8).own x9 fun c hc => by
    have := (b4 c hc).1
    exact Nat.le_trans (Nat.le_trans e123.size (Nat.le_trans z4 (Nat.le_trans z5 z6))) this
  have L1 := (L1.ext e8).extX x9 fun c hc h => by
    have := (b4 c h).1
    have := (k1 c hc).2
    omega
  have L2 := (L2.ext e8).extX x9 fun c hc h => by
    have := (b4 c h).1
    have := (k2 c hc).2
    omega
  have hs := (hs.ext e8).extN x9 fun hl c hc h => hns c (by have := (b4 c h).1; omega) hl hc
  have ht := (ht.ext e8).extN x9 fun hl c hc h => hnt c (by have := (b4 c h).1; omega) hl hc
  refine j1 (fun (r : Bool) w' => r = true ∧ Ext none_ w.here w') ?_ ?_
  · exact tact L1 hs (Ext.refl _ _) (by omega) fun w10 f10 => cnd_t rfl (tact L2 ht f10 (by omega) fun w11 f11 => cnd_t rfl (wk10 fun w12 e12 => ⟨rfl, (e9.trans f11).trans e12⟩))
  rintro r w' ⟨rfl, f⟩
  exact rt1 (c := .bool) _ f rfl

theorem law10_KaraHands {w : TW} {t : HL I11} {a b : Sl} (ha : Arg w a) (hb : Arg w b) : Ct Pg F.zigguratlaw10_KaraHands [.agg (encs I11 t).toArray, a.v, b.v] w none_ [.one .bool] fun (r : Bool) _ => r = true := by
  obtain ⟨la, ha⟩ := ha
  obtain ⟨lb, hb⟩ := hb
  refine Ct.zigguratlaw10_KaraHands ?_
  unfold Sh.zigguratlaw10_KaraHands
  intro w1 e1
  refine cutc (n := 20) (ha.here.ext e1) rfl fun s w2 e2 hs _ => cutc (n := 20) ((hb.here.ext e1).ext e2) rfl fun s1 w3 e3 ht _ => ?_
  have hs := hs.ext e3
  have hx := sz_vl hs.sm
  have hy := sz_vl ht.sm
  have hla : (la.take 20).length ≤ 20 := by simp; omega
  have hlb : (lb.take 20).length ≤ 20 := by simp; omega
  generalize la.take 20 = l at *
  generalize lb.take 20 = m at *
  have e123 := (e1.trans e2).trans e3
  refine c1 (kara_New (t := t)) ?_
  rintro p w4 e4 ⟨k, e, b, tab, hc, hbt, hne, htab, hm⟩
  have hns : l ≠ [] → s.blk ≠ some b := fun hl => old_blk hs hbt hl
  have hnt : m ≠ [] → s1.blk ≠ some b := fun hl => old_blk ht hbt hl
  have hke : e ≠ b := (hne e (by simp)).2
  have hkb : ∀ c ∈ [k, e], ¬ c = b := fun c hc => (hne c hc).2
  refine cnd_f (by obtain ⟨h, _⟩ := hc; rw [h]; rfl) ?_
  have hs := hs.ext e4
  have ht := ht.ext e4
  have dx := dz_of_sz hx
  have dy := dz_of_sz hy
  have hmn : l.length * m.length ≤ 20 * 20 := Nat.mul_le_mul hla hlb
  have hnn : l.length * (l.length + 1) ≤ 20 * 21 := Nat.mul_le_mul hla (by omega)
  have hsn := hs.len
  have htn := ht.len
  obtain ⟨u, hu⟩ : ∃ u, l.length * m.length = u := ⟨_, rfl⟩
  obtain ⟨v, hv⟩ : ∃ v, l.length * (l.length + 1) / 2 = v := ⟨_, rfl⟩
  refine ch1 hc fun q hq => ?_
  refine cl_of (school_Mul hq.en hm hs ht hns hnt (by omega) (by omega)) (fun c hc => by subst hc; exact hm.V) ?_
  intro s2 w5 x5 hpost
  obtain ⟨h5, hm5⟩ := hpost
  rw [hu] at hm5
  have e45 := (e123.trans e4).own x5 fun c hc => by subst hc; exact Nat.le_trans e123.size hbt
  have hs5 := hs.extN x5 fun hl c hc h => hns hl (by rw [hc, h])
  have ht5 := ht.extN x5 fun hl c hc h => hnt hl (by rw [hc, h])
  have hc5 := hc.extX x5 hkb
  have hu1 : (if (0 : Int) < (u : Nat) then wi (0 + (u : Nat)) else 0) = (u : Int) := by
    split
    · rw [Int.zero_add]; exact wi_id (by omega) (by omega)
    · omega
  rw [hu1] at hm5
  refine j1 (fun (r : Bool) w' => r = false ∧ Ext none_ w5 w') ?_ ?_
  · refine ch2 hc5 ?_
    refine c1 (meter_Muls hm5) ?_
    rintro r w6 e6 rfl
    refine bnd_eq (y := (u : Int)) (by rw [hsn, htn, ← hu]; exact wi_mul (by omega)) (cnd_f (by simp) ?_)
    refine c1 (law10_from (hs5.ext e6) (by omega)) fun s3 w7 e7 h7 => ?_
    refine c1 (law10_from ((ht5.ext e6).ext e7) (by omega)) fun s4 w8 e8 h8 => ?_
    refine c1 (ref_Mul (h7.ext e8).dr h8.dr (by omega) (by omega)) fun s5 w9 e9 h9 => ?_
    have hdz := dz_mul (vl W64 l) (vl W64 m)
    have f := ((e6.trans e7).trans e8).trans e9
    exact sm h9.dr (On.ext h5 f) (by omega) rfl fun w10 e10 => ⟨rfl, f.trans e10⟩
  rintro r w6 ⟨rfl, e6⟩
  refine cnd_f rfl ?_
  have hs6 := hs5.ext e6
  have hc6 := hc5.ext e6
  have hm6 := hm5.ext e6
  refine ch1 hc6 fun q hq => ?_
  refine cl_of (school_Sqr hq.en hm6 hs6 hns (by omega)) (fun c hc => by subst hc; exact hm6.V) ?_
  intro s6 w7 x7 hpost
  obtain ⟨h7, hm7⟩ := hpost
  rw [hv] at hm7
  have e7 := (e45.trans e6).own x7 fun c hc => by subst hc; exact Nat.le_trans e123.size hbt
  have hs7 := hs6.extN x7 fun hl c hc h => hns hl (by rw [hc, h])
  have hc7 := hc6.extX x7 hkb
  have hv1 : (if (0 : Int) < (v : Nat) then wi ((u : Int) + (v : Nat)) else (u : Int)) = ((u + v : Nat) : Int) := by
    split
    · rw [← Int.natCast_add]; exact wi_id (by omega) (by omega)
    · omega
  rw [hv1] at hm7
  refine j1 (fun (r : Bool) w' => r = true ∧ Ext none_ w7 w') ?_ ?_
  · refine ch2 hc7 ?_
    refine c1 (meter_Muls hm7) ?_
    rintro r w8 e8 rfl
    refine bnd_eq (y := (u : Int)) (by rw [hsn, htn, ← hu]; exact wi_mul (by omega)) ?_
    refine bnd_wi (by omega) (by omega) (bnd_eq (y := ((l.length * (l.length + 1) : Nat) : Int)) (by rw [hsn, show ((l.length : Int) + 1) = ((l.length + 1 : Nat) : Int) by omega]; exact wi_mul (by omega)) ?_)
    refine divNi (x := l.length * (l.length + 1)) (y := 2) rfl rfl (by omega) (by decide) ?_
    rw [hv]
    refine bnd_eq (y := ((u + v : Nat) : Int)) (by rw [← Int.natCast_add]; exact wi_id (by omega) (by omega)) (cnd_t (by simp) ?_)
    refine c1 (law10_from (hs7.ext e8) (by omega)) fun s7 w9 e9 h9 => ?_
    refine c1 (law10_from ((hs7.ext e8).ext e9) (by omega)) fun s8 w10 e10 h10 => ?_
    refine c1 (ref_Mul (h9.ext e10).dr h10.dr (by omega) (by omega)) fun s9 w11 e11 h11 => ?_
    have hdz := dz_mul (vl W64 l) (vl W64 l)
    have f := ((e8.trans e9).trans e10).trans e11
    refine sm h11.dr (On.ext h7 f) (by omega) rfl fun w12 e12 => cnd_t rfl ?_
    have f := f.trans e12
    have hm12 := hm7.ext f
    have hc12 := hc7.ext f
    obtain ⟨r0, r1, r2, r3, r4, r5, r6, r7, r8, r9, r10, rfl, hr0, -⟩ := htab
    refine ch2 hc12 ⟨r0, (hm12.cell 3).trans rfl, cnd_t (by simp; omega) ?_⟩
    refine ch2 hc12 ⟨r0, (hm12.cell 3).trans rfl, cnd_t (by simp; omega) ?_⟩
    exact wk10 fun w13 e13 => ⟨rfl, f.trans e13⟩
  rintro r w8 ⟨rfl, e8⟩
  exact rt1 (c := .bool) _ (e7.trans e8) rfl
end Go.Proofs.Ytdkhilllajdnpaa.Zg
end
