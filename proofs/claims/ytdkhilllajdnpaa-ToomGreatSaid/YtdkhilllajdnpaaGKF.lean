/- A part of the proofs of this seat's laws: words, lemmas or contracts of its functions. -/
import Derived.Test.YtdkhilllajdnpaaGKE
import Derived.Test.YtdkhilllajdnpaaGKD
set_option linter.unusedVariables false
set_option linter.unusedSimpArgs false
set_option linter.unnecessarySimpa false
section
namespace Go.Proofs.Ytdkhilllajdnpaa.Zg
open Go.RowKit

set_option maxHeartbeats 800000 in
theorem toom_ToomSqr {w : TW} {p : Option Addr} {d k e t : Nat} {m now deep : Int} {tab : List Int} {f : Value} {Y : Nat → Prop} {σ : Type} {St : σ → TW → Prop} {L : Int → Nat → Prop} {Q : σ → Int → Int → Int → Nat → σ → Int → Int → Prop} {s0 : σ} {a : Sl} {la : List Nat}
    (hI : In1 f t tab Y St L Q) (hc : Chain w p [d, k, e] t) (hne : ∀ c ∈ [d, k, e], c ≠ t ∧ ¬ Y c) (hm : Tn w t m now deep tab) (hS : St s0 w) (ha : Rd w a la) (hat : la ≠ [] → a.blk ≠ some t)
    (hla : la.length ≤ 16384) (h0 : 0 ≤ now) (h1 : now ≤ 4611686018427387904) {N h : Nat} (hN : la.length = N) (hh : h = (N + 2) / 3) (hL : 2 * h < N → L (now + 1) h ∧ L (now + 1) (h + 1) ∧ L (now + 1) (N - 2 * h)) :
    Ct Pg F.toom_Engine_ToomSqr [.pointer p, a.v, f] w (fun k => k = t ∨ Y k) [.one .slice, .one .bool] fun (x : Sl) (ok : Bool) w' =>
      (N ≤ 2 * h → ok = false ∧ x = Sl.nil ∧ Ext none_ w w' ∧ Tn w' t m now deep tab ∧ St s0 w') ∧
      (2 * h < N → ok = true ∧ On w' w.w.heap.size x (vl W64 la * vl W64 la) ∧ ∃ s1 m1 d1 s2 m2 d2 s3 m3 d3 s4 m4 d4 s5 m5 d5, Q s0 m (now + 1) (max deep (now + 1)) h s1 m1 d1 ∧ Q s1 m1 (now + 1) d1 (h + 1) s2 m2 d2 ∧ Q s2 m2 (now + 1) d2 (h + 1) s3 m3 d3 ∧ Q s3 m3 (now + 1) d3 (h + 1) s4 m4 d4 ∧ Q s4 m4 (now + 1) d4 (N - 2 * h) s5 m5 d5 ∧ Tn w' t m5 now d5 tab ∧ St s5 w') := by
  refine Ct.toom_Engine_ToomSqr ?_
  unfold Sh.toom_Engine_ToomSqr
  have hat' : la ≠ [] → ∀ c, a.blk = some c → ¬ c = t := fun hl c hc h => hat hl (by rw [hc, h])
  have na := ha.len
  refine bnd_wi (by omega) (by omega) (divNi (x := N + 2) (y := 3) (by omega) rfl (by omega) (by decide) ?_)
  rw [← hh]
  refine bnd_wi (by omega) (by omega) ?_
  refine cnd_d (fun hle => ?_) (fun hle => ?_)
  · exact rt2 (c := .slice) (d := .bool) Sl.nil false (Ext.refl _ _) ⟨fun _ => ⟨rfl, rfl, ⟨rfl, rfl, rfl, Nat.le_refl _, rfl, fun _ h => h, fun _ h => .inl h, fun _ _ _ _ => rfl, fun _ _ => rfl⟩, hm.here.at, hI.mv (hI.mv hS)⟩, fun h => by omega⟩
  have hlt : 2 * h < N := by omega
  obtain ⟨L1, L2, L3⟩ := hL hlt
  have hT : ∀ c, (c = t ∨ Y c) → c < w.w.heap.size := fun c hc => hc.elim (fun h => h ▸ hm.lt) fun h => (hI.new hS h).1
  refine ch3 hc.here ?_
  refine cl_of (meter_Enter hm.here h0 h1) (fun c hc => by subst hc; exact hm.V) ?_
  intro _ w2 x2 hm2
  have hm2 : Tn w2 t m (now + 1) (max deep (now + 1)) tab := hm2
  have hS2 := hI.stay (hI.mv (k := w.w.heap.size) hS) x2
  have hc2 := hc.here.extX x2 fun c hc => (hne c hc).1
  have ha := ha.here.extN x2 hat'
  have z2 : w.w.heap.size ≤ w2.w.heap.size := x2.size
  have sA := sz_vl ha.sm
  have NA := ha.nt
  obtain ⟨A, hA⟩ : ∃ A, vl W64 la = A := ⟨_, rfl⟩
  rw [hA] at NA sA ⊢
  rw [hN] at sA
  obtain ⟨a0, a1, a2, a3, a4⟩ := toom_sizes (k := h) sA (by omega) (by omega)
  refine cl0 (toom_Points (k := h) (n := h) NA (by omega) (by omega)) ?_
  intro r1 _ r3 _ r5 r6 r7 _ r9 _ w3 e3 hp
  obtain ⟨p1, -, p3, -, p5, hr6, p7, -, p9, -⟩ := hp
  intro w4 e4 w5 e5 w6 e6 w7 e7 w8 e8 w9 e9 w10 e10 w11 e11 w12 e12 w24 e13
  have eA := ((((((((e4.trans e5).trans e6).trans e7).trans e8).trans e9).trans e10).trans e11).trans e12).trans e13
  clear e4 e5 e6 e7 e8 e9 e10 e11 e12 e13
  have z3 := e3.size
  have zA := eA.size
  have p1 := (On.less (On.ext p1 eA) z2)
  have p3 := (On.less (On.ext p3 eA) z2)
  have p5 := (On.less (On.ext p5 eA) z2)
  have p7 := (On.less (On.ext p7 eA) z2)
  have p9 := (On.less (On.ext p9 eA) z2)
  have eD := e3.trans eA
  have hm3 := hm2.ext eD
  have hS3 := hI.stay hS2 eD.any
  have hc3 := hc2.ext eD
  have z24 : w.w.heap.size ≤ w24.w.heap.size := by omega
  have xx : Ext (fun k => k = t ∨ Y k) w.here w24 := (x2.weak fun b hb => .inl hb).trans eD.any
  clear eA eD e3 NA ha hm2 hS2 hc2
  have stp : ∀ {v w' : TW} {o : Sl} {z : Nat}, On v w.w.heap.size o z → Ext (fun k => k = t ∨ Y k) v w' → On w' w.w.heap.size o z := fun h x => Ow.extB h x hT
  refine toom_step1 hI hm3 hS3 (On.nt p1) a0 (by omega) hT z24 L1 fun o1 w27 σ1 m1 d1 x27 g1 hm4 hS4 Q1 => ?_
  have z27 : w24.w.heap.size ≤ w27.w.heap.size := x27.size
  have E2 := x27
  refine bnd_wi (by omega) (by omega) ?_
  refine toom_step1 hI hm4 hS4 (n := h + 1) (On.nt (stp p3 E2)) a1 (by omega) hT (show w.w.heap.size ≤ w27.w.heap.size by omega) L2 fun o2 w30 σ2 m2 d2 x30 g2 hm5 hS5 Q2 => ?_
  have z30 : w27.w.heap.size ≤ w30.w.heap.size := x30.size
  have g1 := stp (On.less g1 z24) x30
  have E4 := E2.trans x30
  refine bnd_wi (by omega) (by omega) ?_
  refine toom_step1 hI hm5 hS5 (n := h + 1) (On.nt (stp p5 E4)) a2 (by omega) hT (show w.w.heap.size ≤ w30.w.heap.size by omega) L2 fun o3 w33 σ3 m3 d3 x33 g3 hm6 hS6 Q3 => ?_
  have z33 : w30.w.heap.size ≤ w33.w.heap.size := x33.size
  have g1 := stp g1 x33
  have g2 := stp (On.less g2 (show w.w.heap.size ≤ w27.w.heap.size by omega)) x33
  have E6 := E4.trans x33
  refine bnd_wi (by omega) (by omega) ?_
  refine toom_step1 hI hm6 hS6 (n := h + 1) (On.nt (stp p7 E6)) a3 (by omega) hT (show w.w.heap.size ≤ w33.w.heap.size by omega) L2 fun o4 w36 σ4 m4 d4 x36 g4 hm7 hS7 Q4 => ?_
  have z36 : w33.w.heap.size ≤ w36.w.heap.size := x36.size
  have g1 := stp g1 x36
  have g2 := stp g2 x36
  have g3 := stp (On.less g3 (show w.w.heap.size ≤ w30.w.heap.size by omega)) x36
  have E8 := E6.trans x36
  refine bnd_wi (by omega) (by omega) (bnd_eq (y := ((N - 2 * h : Nat) : Int)) (by rw [na, hN]; exact (wi_id (by omega) (by omega)).trans (by omega)) ?_)
  refine toom_step1 hI hm7 hS7 (n := N - 2 * h) (On.nt (stp p9 E8)) a4 (by omega) hT (show w.w.heap.size ≤ w36.w.heap.size by omega) L3 fun o5 w39 σ5 m5 d5 x39 g5 hm8 hS8 Q5 => ?_
  have z39 : w36.w.heap.size ≤ w39.w.heap.size := x39.size
  have g1 := stp g1 x39
  have g2 := stp g2 x39
  have g3 := stp g3 x39
  have g4 := stp (On.less g4 (show w.w.heap.size ≤ w33.w.heap.size by omega)) x39
  have g5 := On.less g5 (show w.w.heap.size ≤ w36.w.heap.size by omega)
  have E9 := E8.trans x39
  have hc9 := hc3.extX E9 fun c hc h => h.elim (hne c hc).1 (hne c hc).2
  have xx := xx.trans E9
  clear E2 E4 E6 E8 E9 p1 p3 p5 p7 p9 x27 x30 x33 x36 x39 hm3 hm4 hm5 hm6 hm7 hS3 hS4 hS5 hS6 hS7 hc3
  refine ch3 hc9 ?_
  refine cl_of (meter_Leave hm8 h0 h1) (fun c hc => by subst hc; exact hm8.V) ?_
  intro _ w40 x40 hm9
  have hm9 : Tn w40 t m5 now d5 tab := hm9
  have hS9 := hI.stay hS8 x40
  have x40' : Ext (fun k => k = t ∨ Y k) w39 w40 := x40.weak fun b hb => .inl hb
  have g1 := On.nt (stp g1 x40')
  have g2 := On.nt (stp g2 x40')
  have g3 := On.nt (stp g3 x40')
  have g4 := On.nt (stp g4 x40')
  have g5 := On.nt (stp g5 x40')
  have hmul := T_mul A A h
  have hsg := fun E O => toom_sign (E := E) (O := O) hr6 hr6 rfl
  have hZsz : sz ((T0 A h + 2 * T1 A h + 4 * T2 A h) * (T0 A h + 2 * T1 A h + 4 * T2 A h)) ≤ 1048576 := by
    have := sz_mul (T0 A h + 2 * T1 A h + 4 * T2 A h) (T0 A h + 2 * T1 A h + 4 * T2 A h)
    omega
  generalize T0 A h = A0 at *
  generalize T1 A h = A1 at *
  generalize T2 A h = A2 at *
  have i1 : (A0 + A2 + A1) * (A0 + A2 + A1) = A0 * A0 + (A0 * A1 + A1 * A0) + (A0 * A2 + A1 * A1 + A2 * A0) + (A1 * A2 + A2 * A1) + A2 * A2 := by grind
  have i2 : (A0 + 2 * A1 + 4 * A2) * (A0 + 2 * A1 + 4 * A2) = A0 * A0 + 2 * (A0 * A1 + A1 * A0) + 4 * (A0 * A2 + A1 * A1 + A2 * A0) + 8 * (A1 * A2 + A2 * A1) + 16 * (A2 * A2) := by grind
  rw [i1] at g2
  rw [i2] at g4 hZsz
  obtain ⟨sg1, sg2⟩ := hsg (A0 * A0 + (A0 * A2 + A1 * A1 + A2 * A0) + A2 * A2) ((A0 * A1 + A1 * A0) + (A1 * A2 + A2 * A1)) (by grind) (by grind)
  refine c1 (toom_joined (k := h) (neg := false) g1 g2 g3 g4 g5 (fun _ => sg1 (by simp)) (fun h => by cases h) hZsz) fun x8 w41 e41 o8 => ?_
  have hmin : min ((h : Int).toNat) 16384 = h := by omega
  rw [hmin, hmul] at o8
  refine rt2 (c := .slice) (d := .bool) _ _ ((xx.trans x40').trans e41.any) ⟨fun h => by omega, fun _ => ⟨rfl, (On.less o8 ?_).at, σ1, m1, d1, σ2, m2, d2, σ3, m3, d3, σ4, m4, d4, σ5, m5, d5, Q1, Q2, Q3, Q4, Q5, (hm9.ext e41).at, hI.mv (hI.stay hS9 e41.any)⟩⟩
  have := x40.size
  omega
end Go.Proofs.Ytdkhilllajdnpaa.Zg
end

section
namespace Go.Proofs.Ytdkhilllajdnpaa.Zg
open Go.RowKit

theorem law11_hand {w : TW} {s t : Sl} {l m : List Nat} (hs : Rd w s l) (ht : Rd w t m) (hl : l.length ≤ 1048576) (hm : m.length ≤ 1048576) : Ct Pg F.zigguratlaw11_hand [s.v, t.v] w none_ [.one .slice] fun (s' : Sl) w' => On w' w.w.heap.size s' (vl W64 l * vl W64 m) := by
  refine Ct.zigguratlaw11_hand ?_
  unfold Sh.zigguratlaw11_hand
  have hx := dz_of_sz (sz_vl hs.sm)
  have hy := dz_of_sz (sz_vl ht.sm)
  have hxy := dz_mul (vl W64 l) (vl W64 m)
  refine c1 (law11_from hs.here hl) fun s1 w1 e1 h1 => ?_
  refine c1 (law11_from (ht.here.ext e1) hm) fun s2 w2 e2 h2 => ?_
  refine c1 (ref_Mul (h1.ext e2).dr h2.dr (by omega) (by omega)) fun s3 w3 e3 h3 => ?_
  refine c1 (ref_To h3.dr (by omega)) fun s4 w4 e4 h4 => ?_
  exact rt1 (c := .slice) _ (((e1.trans e2).trans e3).trans e4) (On.at (On.less h4 ((e1.trans e2).trans e3).size))

theorem law11_ToomMuls_1 {w : TW} {a b : Sl} {la lb : List Nat} {W : List Int} {b4 b3 b2 b1 : Nat} {s : Option Nat} (ha : Rd w a la) (hb : Rd w b lb) (hat : ∀ c, a.blk = some c → c ≠ b3 ∧ c ≠ b4) (hbt : ∀ c, b.blk = some c → c ≠ b3 ∧ c ≠ b4) (hl : la.length ≤ 1048576) (hm : lb.length ≤ 1048576) (hS : Cst 2 5 W b4 b3 b2 b1 s w) :
    Ct Pg F.zigguratlaw11_ToomMuls_1 [a.v, b.v, .pointer (some ⟨b4, 0, none⟩), .pointer (some ⟨b3, 0, none⟩), .pointer (some ⟨b2, 0, none⟩)] w (fun c => c = b3 ∨ c = b4) [.one .slice] fun (s' : Sl) w' => On w' w.w.heap.size s' (vl W64 la * vl W64 lb) ∧ ∃ s1, Cst 2 5 W b4 b3 b2 b1 s1 w' ∧ ∀ i, s = some i → i < 5 → (la.length : Int) = W.getD (2 * i) 0 → (lb.length : Int) = W.getD (2 * i + 1) 0 → s1 = some (i + 1) := by
  refine Ct.zigguratlaw11_ToomMuls_1 ?_
  unfold Sh.zigguratlaw11_ToomMuls_1
  have na := ha.len
  have nb := hb.len
  obtain ⟨H2, H1, hW, n13, n14, n23, n24, n34, hs⟩ := id hS
  refine j0 (fun w5 => Cmid 2 5 W b4 b3 b2 b1 s (fun i => (la.length : Int) = W.getD (2 * i) 0 ∧ (lb.length : Int) = W.getD (2 * i + 1) 0) w.here w5) ?_ ?_
  · cases s with
    | none =>
      obtain ⟨⟨v, h3⟩, h4⟩ := hs
      refine ⟨false, h4.here.cell, cnd_f rfl (h4.here.put _ fun w4 g4 e4 => ⟨false, v, g4, h3.here.extX e4 n34, (fun i h => by cases h), (fun h => by cases h), (fun i h => by cases h), e4⟩)⟩
    | some i =>
      obtain ⟨hi, h3, h4⟩ := hs
      refine ⟨true, h4.here.cell, cnd_t rfl ⟨(i : Int), h3.here.cell, cnd_d (fun h => ?_) (fun h => ?_)⟩⟩
      · have hi3 : i < 5 := by omega
        have c1 := fun j => (H1.here.cell j)
        have hw0 : (W.map (Value.int .i64))[2 * i]? = some (.int .i64 (W.getD (2 * i) 0)) := by
          rw [List.getElem?_map, List.getElem?_eq_getElem (show 2 * i < W.length by omega)]
          simp [show 2 * i < W.length by omega]
        have hw1 : (W.map (Value.int .i64))[2 * i + 1]? = some (.int .i64 (W.getD (2 * i + 1) 0)) := by
          rw [List.getElem?_map, List.getElem?_eq_getElem (show 2 * i + 1 < W.length by omega)]
          simp [show 2 * i + 1 < W.length by omega]
        refine ⟨⟨some ⟨b1, 0, none⟩, 5, 5⟩, H2.here.cell, (i : Int), h3.here.cell, ?_⟩
        refine ⟨_, rfl, by omega, by omega, by decide, by decide, W.getD (2 * i) 0, ?_, ?_⟩
        · rw [show ((⟨b1, 0, none⟩ : Addr).add ((i : Int).toNat * 2)).add (Int.toNat 0 * 1) = ⟨b1, 2 * i, none⟩ by rw [addp, addp]; congr 1; omega]
          exact (c1 _).trans hw0
        refine cnd_i (fun he => ?_) (fun he => ?_)
        · refine ⟨⟨some ⟨b1, 0, none⟩, 5, 5⟩, H2.here.cell, (i : Int), h3.here.cell, ?_⟩
          refine ⟨_, rfl, by omega, by omega, by decide, by decide, W.getD (2 * i + 1) 0, ?_, ?_⟩
          · rw [show ((⟨b1, 0, none⟩ : Addr).add ((i : Int).toNat * 2)).add (Int.toNat 1 * 1) = ⟨b1, 2 * i + 1, none⟩ by rw [addp, addp]; congr 1; omega]
            exact (c1 _).trans hw1
          refine h4.here.put _ fun w1 g1 e1 => ⟨_, (i : Int), g1, h3.here.extX e1 n34, (fun j hj => by cases hj; rfl), (fun _ => ⟨i, rfl, hi3⟩), fun j hj _ hg => ?_, e1⟩
          cases hj
          rw [nb]
          simpa using hg.2
        · refine h4.here.put _ fun w1 g1 e1 => ⟨_, (i : Int), g1, h3.here.extX e1 n34, (fun j hj => by cases hj; rfl), (fun h => by cases h), fun j hj _ hg => ?_, e1⟩
          cases hj
          rw [na] at he
          have := hg.1
          simp at he
          exact absurd this he
      · refine h4.here.put _ fun w1 g1 e1 => ⟨_, (i : Int), g1, h3.here.extX e1 n34, (fun j hj => by cases hj; rfl), (fun h => by cases h), fun j hj hj3 _ => ?_, e1⟩
        cases hj
        omega
  rintro w5 ⟨r, v, g4, g3, gv, gr, gg, e5⟩
  refine ⟨v, g3.cell, bnd_i (g3.put _ fun w6 f3 e6 => ?_)⟩
  have e56 : Ext (fun c => c = b3 ∨ c = b4) w.here w6 := (e5.weak fun c h => .inr h).trans (e6.weak fun c h => .inl h)
  have g4 := g4.extX e6 fun h => n34 h.symm
  refine c1 (law11_hand (ha.here.extX e56 fun c hc h => h.elim (hat c hc).1 (hat c hc).2) (hb.here.extX e56 fun c hc h => h.elim (hbt c hc).1 (hbt c hc).2) hl hm) fun s' w7 e7 h7 => ?_
  have H1 := (H1.here.extX e56 fun h => h.elim n13 n14).ext e7
  have H2 := (H2.here.extX e56 fun h => h.elim n23 n24).ext e7
  refine rt1 (c := .slice) _ (e56.trans e7.any) ⟨(On.less h7 e56.size).at, ?_⟩
  cases r with
  | false =>
    refine ⟨none, Cst.mv ⟨H2, H1, hW, n13, n14, n23, n24, n34, ⟨_, f3.ext e7⟩, g4.ext e7⟩, fun i hi h3 k1 k2 => ?_⟩
    exact absurd (gg i hi h3 ⟨k1, k2⟩) (by decide)
  | true =>
    obtain ⟨i, hi, h3⟩ := gr rfl
    have := gv i hi
    subst this
    refine ⟨some (i + 1), Cst.mv ⟨H2, H1, hW, n13, n14, n23, n24, n34, by omega, ?_, g4.ext e7⟩, fun j hj _ _ _ => by rw [hi] at hj; cases hj; rfl⟩
    have := f3.ext e7
    rwa [wi_id (by omega) (by omega)] at this

theorem law11_ToomSquares_1 {w : TW} {a : Sl} {la : List Nat} {W : List Int} {b4 b3 b2 b1 : Nat} {s : Option Nat} (ha : Rd w a la) (hat : ∀ c, a.blk = some c → c ≠ b3 ∧ c ≠ b4) (hl : la.length ≤ 1048576) (hS : Cst 1 5 W b4 b3 b2 b1 s w) :
    Ct Pg F.zigguratlaw11_ToomSquares_1 [a.v, .pointer (some ⟨b4, 0, none⟩), .pointer (some ⟨b3, 0, none⟩), .pointer (some ⟨b2, 0, none⟩)] w (fun c => c = b3 ∨ c = b4) [.one .slice] fun (s' : Sl) w' => On w' w.w.heap.size s' (vl W64 la * vl W64 la) ∧ ∃ s1, Cst 1 5 W b4 b3 b2 b1 s1 w' ∧ ∀ i, s = some i → i < 5 → (la.length : Int) = W.getD i 0 → s1 = some (i + 1) := by
  refine Ct.zigguratlaw11_ToomSquares_1 ?_
  unfold Sh.zigguratlaw11_ToomSquares_1
  have na := ha.len
  obtain ⟨H2, H1, hW, n13, n14, n23, n24, n34, hs⟩ := id hS
  refine j0 (fun w5 => Cmid 1 5 W b4 b3 b2 b1 s (fun i => (la.length : Int) = W.getD i 0) w.here w5) ?_ ?_
  · cases s with
    | none =>
      obtain ⟨⟨v, h3⟩, h4⟩ := hs
      refine ⟨false, h4.here.cell, cnd_f rfl (h4.here.put _ fun w4 g4 e4 => ⟨false, v, g4, h3.here.extX e4 n34, (fun i h => by cases h), (fun h => by cases h), (fun i h => by cases h), e4⟩)⟩
    | some i =>
      obtain ⟨hi, h3, h4⟩ := hs
      refine ⟨true, h4.here.cell, cnd_t rfl ⟨(i : Int), h3.here.cell, cnd_d (fun h => ?_) (fun h => ?_)⟩⟩
      · have hi3 : i < 5 := by omega
        have hw0 : (W.map (Value.int .i64))[i]? = some (.int .i64 (W.getD i 0)) := by
          rw [List.getElem?_map, List.getElem?_eq_getElem (show i < W.length by omega)]
          simp [show i < W.length by omega]
        refine ⟨⟨some ⟨b1, 0, none⟩, 5, 5⟩, H2.here.cell, (i : Int), h3.here.cell, ?_⟩
        refine ⟨_, rfl, by omega, by omega, W.getD i 0, ?_, ?_⟩
        · rw [show ((⟨b1, 0, none⟩ : Addr).add ((i : Int).toNat * 1)) = ⟨b1, i, none⟩ by rw [addp]; congr 1; omega]
          exact (H1.here.cell _).trans hw0
        refine h4.here.put _ fun w1 g1 e1 => ⟨_, (i : Int), g1, h3.here.extX e1 n34, (fun j hj => by cases hj; rfl), (fun _ => ⟨i, rfl, hi3⟩), fun j hj _ hg => ?_, e1⟩
        cases hj
        rw [na]
        simpa using hg
      · refine h4.here.put _ fun w1 g1 e1 => ⟨_, (i : Int), g1, h3.here.extX e1 n34, (fun j hj => by cases hj; rfl), (fun h => by cases h), fun j hj hj3 _ => ?_, e1⟩
        cases hj
        omega
  rintro w5 ⟨r, v, g4, g3, gv, gr, gg, e5⟩
  refine ⟨v, g3.cell, bnd_i (g3.put _ fun w6 f3 e6 => ?_)⟩
  have e56 : Ext (fun c => c = b3 ∨ c = b4) w.here w6 := (e5.weak fun c h => .inr h).trans (e6.weak fun c h => .inl h)
  have g4 := g4.extX e6 fun h => n34 h.symm
  have ha6 := ha.here.extX e56 fun c hc h => h.elim (hat c hc).1 (hat c hc).2
  refine c1 (law11_hand ha6 ha6 hl hl) fun s' w7 e7 h7 => ?_
  have H1 := (H1.here.extX e56 fun h => h.elim n13 n14).ext e7
  have H2 := (H2.here.extX e56 fun h => h.elim n23 n24).ext e7
  refine rt1 (c := .slice) _ (e56.trans e7.any) ⟨(On.less h7 e56.size).at, ?_⟩
  cases r with
  | false =>
    refine ⟨none, Cst.mv ⟨H2, H1, hW, n13, n14, n23, n24, n34, ⟨_, f3.ext e7⟩, g4.ext e7⟩, fun i hi h3 k1 => ?_⟩
    exact absurd (gg i hi h3 k1) (by decide)
  | true =>
    obtain ⟨i, hi, h3⟩ := gr rfl
    have := gv i hi
    subst this
    refine ⟨some (i + 1), Cst.mv ⟨H2, H1, hW, n13, n14, n23, n24, n34, by omega, ?_, g4.ext e7⟩, fun j hj _ _ => by rw [hi] at hj; cases hj; rfl⟩
    have := f3.ext e7
    rwa [wi_id (by omega) (by omega)] at this

end Go.Proofs.Ytdkhilllajdnpaa.Zg
end

section
namespace Go.Proofs.Ytdkhilllajdnpaa.Zg
open Go.RowKit

theorem law11_ToomMuls {w : TW} {t : HL I11} {a b : Sl} (ha : Arg w a) (hb : Arg w b) : Ct Pg F.zigguratlaw11_ToomMuls [.agg (encs I11 t).toArray, a.v, b.v] w none_ [.one .bool] fun (r : Bool) _ => r = true := by
  obtain ⟨la, ha⟩ := ha
  obtain ⟨lb, hb⟩ := hb
  refine Ct.zigguratlaw11_ToomMuls ?_
  unfold Sh.zigguratlaw11_ToomMuls
  intro w1 e1
  refine cutc (n := 45) (ha.here.ext e1) rfl fun s w2 e2 hs _ => cutc (n := 45) ((hb.here.ext e1).ext e2) rfl fun s1 w3 e3 ht _ => ?_
  have hs := hs.ext e3
  have hx := sz_vl hs.sm
  have hy := sz_vl ht.sm
  have hla : (la.take 45).length ≤ 45 := by simp; omega
  have hlb : (lb.take 45).length ≤ 45 := by simp; omega
  generalize la.take 45 = l at *
  generalize lb.take 45 = m at *
  have e123 := (e1.trans e2).trans e3
  clear e1 e2 e3
  refine c1 (toom_New (t := t)) ?_
  rintro p w4 e4 ⟨d, k, e, tt, tab, hc, hbt, hne, htab, hm⟩
  have hns : ∀ c, w3.w.heap.size ≤ c → l ≠ [] → s.blk ≠ some c := fun c hc hl => old_blk hs hc hl
  have hnt : ∀ c, w3.w.heap.size ≤ c → m ≠ [] → s1.blk ≠ some c := fun c hc hl => old_blk ht hc hl
  refine cnd_f (by obtain ⟨h, _⟩ := hc; rw [h]; rfl) ?_
  have hsn := hs.len
  have htn := ht.len
  obtain ⟨N, hN⟩ : ∃ N, max l.length m.length = N := ⟨_, rfl⟩
  obtain ⟨M, hM⟩ : ∃ M, min l.length m.length = M := ⟨_, rfl⟩
  obtain ⟨h, hh⟩ : ∃ h, h = (N + 2) / 3 := ⟨_, rfl⟩
  refine bnd_eq (y := (N : Int)) (by split <;> omega) (bnd_eq (y := (M : Int)) (by split <;> omega) ?_)
  refine bnd_wi (by omega) (by omega) (divNi (x := N + 2) (y := 3) (by omega) rfl (by omega) (by decide) ?_)
  rw [← hh]
  refine bnd_wi (by omega) (by omega) ?_
  refine bnd_wi (by omega) (by omega) ?_
  refine bnd_wi (by omega) (by omega) ?_
  refine bnd_wi (by omega) (by omega) ?_
  refine bnd_wi (by omega) (by omega) ?_
  refine bnd_wi (by omega) (by omega) ?_
  refine bnd_wi (by omega) (by omega) ?_
  refine bnd_wi (by omega) (by omega) ?_
  refine bnd_wi (by omega) (by omega) ?_
  refine bnd_wi (by omega) (by omega) ?_
  obtain ⟨W, hW⟩ : ∃ W : List Int, W = [(h : Int), h, h + 1, h + 1, h + 1, h + 1, h + 1, h + 1, N - 2 * h, M - 2 * h] := ⟨_, rfl⟩
  refine nw_rw fun b1 w5 g1 k1 e5 => nw_bx fun b2 w6 g2 k2 e6 => g2.put _ fun w7 g2 e7 => ?_
  have g1 : Rw w5 b1 (W.map (Value.int .i64)) := by rw [hW]; exact g1
  have tlt := hm.lt
  have hcl := hc.lt
  have z4 := e4.size
  have z5 := e5.size
  have z6 := e6.size
  have z7 := e7.size
  have l1 := g1.lt
  have l2 := g2.lt
  have e57 := (e5.trans e6).own e7 fun c hc => by omega
  have g1 := (g1.ext e6).extX e7 (by omega)
  refine c1 (keep_Lend ((hs.ext e4).ext e57) (by omega)) fun s2 w8 e8 L1 => ?_
  refine c1 (keep_Lend (((ht.ext e4).ext e57).ext e8) (by omega)) fun s3 w9 e9 L2 => ?_
  have z8 := e8.size
  have z9 := e9.size
  refine nw_bx fun b3 w10 g3 k3 e10 => ?_
  have l3 := g3.lt
  refine nw_bx fun b4 w11 g4 k4 e11 => ?_
  have l4 := g4.lt
  have n34 : b3 ≠ b4 := by omega
  refine (g3.ext e11).put _ fun w12 g3 e12 => (g4.extX e12 (by omega)).put _ fun w13 g4 e13 => ?_
  have z10 := e10.size
  have z11 := e11.size
  have z12 := e12.size
  have z13 := e13.size
  have g3 := g3.extX e13 n34
  have L1 := (L1.ext e9)
  have k1' := L1.blk
  have k2' := L2.blk
  have e9d := (((e57.trans e8).trans e9).trans e10).trans e11
  have e4d := (e9d.own e12 fun c hc => by omega).own e13 fun c hc => by omega
  have e9d := (((e10.trans e11).own e12 fun c hc => by omega).own e13 fun c hc => by omega)
  have e7d := (e8.trans e9).trans e9d
  have g1 := g1.ext e7d
  have g2 := g2.ext e7d
  have hs := (hs.ext e4).ext e4d
  have ht := (ht.ext e4).ext e4d
  have hm := hm.ext e4d
  have hc := hc.ext e4d
  have L1 := L1.ext e9d
  have L2 := L2.ext e9d
  have zd := e9d.size
  have hS : Cst 2 5 W b4 b3 b2 b1 (some 0) w13 := ⟨g2, g1, by rw [hW]; rfl, by omega, by omega, by omega, by omega, n34, by omega, g3, g4⟩
  have hI : In2 (.func (.func F.zigguratlaw11_ToomMuls_1) [].toArray [.pointer (some ⟨b4, 0, none⟩), .pointer (some ⟨b3, 0, none⟩), .pointer (some ⟨b2, 0, none⟩)].toArray) tt tab (fun c => c = b3 ∨ c = b4) (Cst 2 5 W b4 b3 b2 b1) (fun _ x y => x ≤ 1048576 ∧ y ≤ 1048576) (fun s m _ d x y s' m' d' => m' = m ∧ d' = d ∧ ∀ i, s = some i → i < 5 → (x : Int) = W.getD (2 * i) 0 → (y : Int) = W.getD (2 * i + 1) 0 → s' = some (i + 1)) := by
    refine ⟨fun h => h.mv, fun h x => h.extX x ⟨by omega, by omega, by omega, by omega⟩, fun h hx => ?_, ?_⟩
    · obtain ⟨⟨_, h3⟩, _, h4⟩ := h.b3
      rcases hx with rfl | rfl
      · exact ⟨h3.lt, h3.V⟩
      · exact ⟨h4.lt, h4.V⟩
    intro w s m now deep a b la lb hm hS ha hb hat hbt hL K hK
    obtain ⟨⟨_, h3⟩, _, h4⟩ := hS.b3
    refine clv_of (by kernel_rfl) (cl_of (law11_ToomMuls_1 ha hb (fun c h => ⟨fun h' => (hat c h).2 (.inl h'), fun h' => (hat c h).2 (.inr h')⟩) (fun c h => ⟨fun h' => (hbt c h).2 (.inl h'), fun h' => (hbt c h).2 (.inr h')⟩) hL.1 hL.2 hS) (fun x hx => hx.elim (fun h => h ▸ h3.V) fun h => h ▸ h4.V) ?_)
    intro x w' hx hpost
    obtain ⟨ho, s1, hS', hq⟩ := hpost
    exact hK x w' _ m deep (hx.weak fun c hc => .inr hc) ho (hm.extX hx fun h => by omega) hS' ⟨rfl, rfl, hq⟩
  have hck : ∀ x ∈ [d, k, e], x ≠ tt ∧ ¬ (x = b3 ∨ x = b4) := fun x hx => ⟨(hne x hx).2, fun h => by have := hcl x hx; omega⟩
  refine cl_of (toom_Toom (h := h) (s0 := some 0) hI hc hck hm hS L1.rd L2.rd (fun _ h => by have := (k1' _ h).1; omega) (fun _ h => by have := (k2' _ h).1; omega) (by omega) (by omega) (by decide) (by decide) hN hM hh fun _ => ⟨by omega, by omega, by omega⟩) (fun x hx => hx.elim (fun h => h ▸ hm.V) fun h => h.elim (fun h => h ▸ g3.V) fun h => h ▸ g4.V) ?_
  intro s4 ok w14 x14 hpost
  obtain ⟨q1, q2⟩ := hpost
  have eD := (e123.trans e4).trans e4d
  refine bnd_wi (by omega) (by omega) ?_
  refine cnd_d (fun hle => ?_) (fun hle => ?_)
  · obtain ⟨rfl, rfl, e14, -, hS14⟩ := q1 (by omega)
    refine j1 (fun (r : Bool) w' => r = true ∧ Ext none_ w.here w') ?_ ?_
    · refine cnd_t rfl ⟨_, hS14.2.2.2.2.2.2.2.2.2.1.cell, cnd_t rfl (cnd_t rfl (wk11 fun w15 e15 => ⟨rfl, (eD.trans e14).trans e15⟩))⟩
    rintro r w' ⟨rfl, f⟩
    exact rt1 (c := .bool) _ f rfl
  have hlt : 2 * h < M := by omega
  obtain ⟨rfl, ho, s1', m1, d1, s2', m2, d2, s3', m3, d3, s4', m4, d4, s5', m5, d5, ⟨rfl, rfl, Q1⟩, ⟨rfl, rfl, Q2⟩, ⟨rfl, rfl, Q3⟩, ⟨rfl, rfl, Q4⟩, ⟨rfl, rfl, Q5⟩, hm14, hS14⟩ := q2 hlt
  have E1 := Q1 0 rfl (by decide) (by rw [hW]; rfl) (by rw [hW]; rfl)
  have E2 := Q2 1 E1 (by decide) (by rw [hW]; rfl) (by rw [hW]; rfl)
  have E3 := Q3 2 E2 (by decide) (by rw [hW]; rfl) (by rw [hW]; rfl)
  have E4 := Q4 3 E3 (by decide) (by rw [hW]; rfl) (by rw [hW]; rfl)
  have E5 := Q5 4 E4 (by decide) (by rw [hW]; show ((N - 2 * h : Nat) : Int) = (N : Int) - 2 * h; omega) (by rw [hW]; show ((M - 2 * h : Nat) : Int) = (M : Int) - 2 * h; omega)
  subst E5
  obtain ⟨-, -, -, -, -, -, -, -, -, f3, f4⟩ := hS14
  have z14 := x14.size
  have eE : Ext none_ w.here w14 := eD.own x14 fun c hc => by
    have : w.w.heap.size ≤ w3.w.heap.size := e123.size
    show w.w.heap.size ≤ c
    rcases hc with h | h | h <;> omega
  have TT : ∀ c, (c = tt ∨ c = b3 ∨ c = b4) → c < w13.w.heap.size ∧ w3.w.heap.size ≤ c := fun c hc => by rcases hc with h | h | h <;> omega
  have L1 := L1.extX x14 fun c hc h => by have := k1' c hc; rcases h with h | h | h <;> omega
  have L2 := L2.extX x14 fun c hc h => by have := k2' c hc; rcases h with h | h | h <;> omega
  have hs := hs.extN x14 fun hl c hc h => hns c (TT c h).2 hl hc
  have ht := ht.extN x14 fun hl c hc h => hnt c (TT c h).2 hl hc
  have hc := hc.extX x14 fun c hc h => h.elim (hck c hc).1 (hck c hc).2
  have dx := dz_of_sz hx
  have dy := dz_of_sz hy
  refine j1 (fun (r : Bool) w' => r = false ∧ Ext none_ w14 w') ?_ ?_
  · refine cnd_f rfl ⟨_, f3.cell, cnd_f rfl ⟨_, f4.cell, cnd_f rfl ?_⟩⟩
    refine c1 (law11_from hs (by omega)) fun s5 w15 e15 h5 => ?_
    refine c1 (law11_from (ht.ext e15) (by omega)) fun s6 w16 e16 h6 => ?_
    refine c1 (ref_Mul (h5.ext e16).dr h6.dr (by omega) (by omega)) fun s7 w17 e17 h7 => ?_
    have hdz := dz_mul (vl W64 l) (vl W64 m)
    have f := (e15.trans e16).trans e17
    refine sm h7.dr (On.ext ho f) (by omega) rfl fun w18 e18 => cnd_f rfl ?_
    have f := f.trans e18
    refine ch3 (hc.ext f) (c1 (meter_Muls (hm14.ext f)) ?_)
    rintro r w19 e19 rfl
    have f := f.trans e19
    refine cnd_f rfl (ch3 (hc.ext f) (c1 (meter_Deep (hm14.ext f)) ?_))
    rintro r w20 e20 rfl
    have f := f.trans e20
    refine cnd_f rfl (ch3 (hc.ext f) (c1 (meter_Now (hm14.ext f)) ?_))
    rintro r w21 e21 rfl
    exact ⟨rfl, f.trans e21⟩
  rintro r w15 ⟨rfl, e15⟩
  refine cnd_f rfl ?_
  have h4 := On.ext ho e15
  have b4' := fun c hc => (Ow.from_ h4 c hc)
  refine cl_of (keep_Spoil h4) (fun c hc => h4.ow.2 c hc) ?_
  intro w16 x16 _
  have z15 := e15.size
  have e16 := (eE.trans e15).own x16 fun c hc => by
    have := (b4' c hc).1
    have : w.w.heap.size ≤ w13.w.heap.size := eD.size
    show w.w.heap.size ≤ c
    omega
  have L1 := (L1.ext e15).extX x16 fun c hc h => by
    have := (b4' c h).1
    have := (k1' c hc).2
    omega
  have L2 := (L2.ext e15).extX x16 fun c hc h => by
    have := (b4' c h).1
    have := (k2' c hc).2
    omega
  have hs := (hs.ext e15).extN x16 fun hl c hc h => hns c (by have := (b4' c h).1; omega) hl hc
  have ht := (ht.ext e15).extN x16 fun hl c hc h => hnt c (by have := (b4' c h).1; omega) hl hc
  refine j1 (fun (r : Bool) w' => r = true ∧ Ext none_ w.here w') ?_ ?_
  · exact tact L1 hs (Ext.refl _ _) (by omega) fun w17 f17 => cnd_t rfl (tact L2 ht f17 (by omega) fun w18 f18 => cnd_t rfl (wk11 fun w19 e19 => ⟨rfl, (e16.trans f18).trans e19⟩))
  rintro r w' ⟨rfl, f⟩
  exact rt1 (c := .bool) _ f rfl

theorem law11_ToomSquares {w : TW} {t : HL I11} {a : Sl} (ha : Arg w a) : Ct Pg F.zigguratlaw11_ToomSquares [.agg (encs I11 t).toArray, a.v] w none_ [.one .bool] fun (r : Bool) _ => r = true := by
  obtain ⟨la, ha⟩ := ha
  refine Ct.zigguratlaw11_ToomSquares ?_
  unfold Sh.zigguratlaw11_ToomSquares
  intro w1 e1
  refine cutc (n := 45) (ha.here.ext e1) rfl fun s w3 e3 hs _ => ?_
  have hx := sz_vl hs.sm
  have hla : (la.take 45).length ≤ 45 := by simp; omega
  generalize la.take 45 = l at *
  have e123 := e1.trans e3
  clear e1 e3
  refine c1 (toom_New (t := t)) ?_
  rintro p w4 e4 ⟨d, k, e, tt, tab, hc, hbt, hne, htab, hm⟩
  have hns : ∀ c, w3.w.heap.size ≤ c → l ≠ [] → s.blk ≠ some c := fun c hc hl => old_blk hs hc hl
  refine cnd_f (by obtain ⟨h, _⟩ := hc; rw [h]; rfl) ?_
  have hsn := hs.len
  obtain ⟨N, hN⟩ : ∃ N, l.length = N := ⟨_, rfl⟩
  obtain ⟨h, hh⟩ : ∃ h, h = (N + 2) / 3 := ⟨_, rfl⟩
  refine bnd_wi (by omega) (by omega) (divNi (x := N + 2) (y := 3) (by omega) rfl (by omega) (by decide) ?_)
  rw [← hh]
  refine bnd_wi (by omega) (by omega) ?_
  refine bnd_wi (by omega) (by omega) ?_
  refine bnd_wi (by omega) (by omega) ?_
  refine bnd_wi (by omega) (by omega) ?_
  refine bnd_eq (y := ((N : Int) - 2 * h)) (by rw [hsn, hN]; exact wi_id (by omega) (by omega)) ?_
  obtain ⟨W, hW⟩ : ∃ W : List Int, W = [(h : Int), h + 1, h + 1, h + 1, N - 2 * h] := ⟨_, rfl⟩
  refine nw_rw fun b1 w5 g1 k1 e5 => nw_bx fun b2 w6 g2 k2 e6 => g2.put _ fun w7 g2 e7 => ?_
  have g1 : Rw w5 b1 (W.map (Value.int .i64)) := by rw [hW]; exact g1
  have tlt := hm.lt
  have hcl := hc.lt
  have z4 := e4.size
  have z5 := e5.size
  have z6 := e6.size
  have z7 := e7.size
  have l1 := g1.lt
  have l2 := g2.lt
  have e57 := (e5.trans e6).own e7 fun c hc => by omega
  have g1 := (g1.ext e6).extX e7 (by omega)
  refine c1 (keep_Lend ((hs.ext e4).ext e57) (by omega)) fun s2 w9 e9 L1 => ?_
  have z9 := e9.size
  refine nw_bx fun b3 w10 g3 k3 e10 => ?_
  have l3 := g3.lt
  refine nw_bx fun b4 w11 g4 k4 e11 => ?_
  have l4 := g4.lt
  have n34 : b3 ≠ b4 := by omega
  refine (g3.ext e11).put _ fun w12 g3 e12 => (g4.extX e12 (by omega)).put _ fun w13 g4 e13 => ?_
  have z10 := e10.size
  have z11 := e11.size
  have z12 := e12.size
  have z13 := e13.size
  have g3 := g3.extX e13 n34
  have k1' := L1.blk
  have e9d := ((e57.trans e9).trans e10).trans e11
  have e4d := (e9d.own e12 fun c hc => by omega).own e13 fun c hc => by omega
  have e9d := (((e10.trans e11).own e12 fun c hc => by omega).own e13 fun c hc => by omega)
  have e7d := e9.trans e9d
  have g1 := g1.ext e7d
  have g2 := g2.ext e7d
  have hs := (hs.ext e4).ext e4d
  have hm := hm.ext e4d
  have hc := hc.ext e4d
  have L1 := L1.ext e9d
  have zd := e9d.size
  have hS : Cst 1 5 W b4 b3 b2 b1 (some 0) w13 := ⟨g2, g1, by rw [hW]; rfl, by omega, by omega, by omega, by omega, n34, by omega, g3, g4⟩
  have hI : In1 (.func (.func F.zigguratlaw11_ToomSquares_1) [].toArray [.pointer (some ⟨b4, 0, none⟩), .pointer (some ⟨b3, 0, none⟩), .pointer (some ⟨b2, 0, none⟩)].toArray) tt tab (fun c => c = b3 ∨ c = b4) (Cst 1 5 W b4 b3 b2 b1) (fun _ x => x ≤ 1048576) (fun s m _ d x s' m' d' => m' = m ∧ d' = d ∧ ∀ i, s = some i → i < 5 → (x : Int) = W.getD i 0 → s' = some (i + 1)) := by
    refine ⟨fun h => h.mv, fun h x => h.extX x ⟨by omega, by omega, by omega, by omega⟩, fun h hx => ?_, ?_⟩
    · obtain ⟨⟨_, h3⟩, _, h4⟩ := h.b3
      rcases hx with rfl | rfl
      · exact ⟨h3.lt, h3.V⟩
      · exact ⟨h4.lt, h4.V⟩
    intro w s m now deep a la hm hS ha hat hL K hK
    obtain ⟨⟨_, h3⟩, _, h4⟩ := hS.b3
    refine clv_of (by kernel_rfl) (cl_of (law11_ToomSquares_1 ha (fun c h => ⟨fun h' => (hat c h).2 (.inl h'), fun h' => (hat c h).2 (.inr h')⟩) hL hS) (fun x hx => hx.elim (fun h => h ▸ h3.V) fun h => h ▸ h4.V) ?_)
    intro x w' hx hpost
    obtain ⟨ho, s1, hS', hq⟩ := hpost
    exact hK x w' _ m deep (hx.weak fun c hc => .inr hc) ho (hm.extX hx fun h => by omega) hS' ⟨rfl, rfl, hq⟩
  have hck : ∀ x ∈ [d, k, e], x ≠ tt ∧ ¬ (x = b3 ∨ x = b4) := fun x hx => ⟨(hne x hx).2, fun h => by have := hcl x hx; omega⟩
  refine cl_of (toom_ToomSqr (h := h) (s0 := some 0) hI hc hck hm hS L1.rd (fun _ h => by have := (k1' _ h).1; omega) (by omega) (by decide) (by decide) hN hh fun _ => ⟨by omega, by omega, by omega⟩) (fun x hx => hx.elim (fun h => h ▸ hm.V) fun h => h.elim (fun h => h ▸ g3.V) fun h => h ▸ g4.V) ?_
  intro s4 ok w14 x14 hpost
  obtain ⟨q1, q2⟩ := hpost
  have eD := (e123.trans e4).trans e4d
  refine bnd_wi (by omega) (by omega) ?_
  refine cnd_d (fun hle => ?_) (fun hle => ?_)
  · obtain ⟨rfl, rfl, e14, -, hS14⟩ := q1 (by omega)
    refine j1 (fun (r : Bool) w' => r = true ∧ Ext none_ w.here w') ?_ ?_
    · refine cnd_t rfl ⟨_, hS14.2.2.2.2.2.2.2.2.2.1.cell, cnd_t rfl (cnd_t rfl (wk11 fun w15 e15 => ⟨rfl, (eD.trans e14).trans e15⟩))⟩
    rintro r w' ⟨rfl, f⟩
    exact rt1 (c := .bool) _ f rfl
  have hlt : 2 * h < N := by omega
  obtain ⟨rfl, ho, s1', m1, d1, s2', m2, d2, s3', m3, d3, s4', m4, d4, s5', m5, d5, ⟨rfl, rfl, Q1⟩, ⟨rfl, rfl, Q2⟩, ⟨rfl, rfl, Q3⟩, ⟨rfl, rfl, Q4⟩, ⟨rfl, rfl, Q5⟩, hm14, hS14⟩ := q2 hlt
  have E1 := Q1 0 rfl (by decide) (by rw [hW]; rfl)
  have E2 := Q2 1 E1 (by decide) (by rw [hW]; rfl)
  have E3 := Q3 2 E2 (by decide) (by rw [hW]; rfl)
  have E4 := Q4 3 E3 (by decide) (by rw [hW]; rfl)
  have E5 := Q5 4 E4 (by decide) (by rw [hW]; show ((N - 2 * h : Nat) : Int) = (N : Int) - 2 * h; omega)
  subst E5
  obtain ⟨-, -, -, -, -, -, -, -, -, f3, f4⟩ := hS14
  have z14 := x14.size
  have eE : Ext none_ w.here w14 := eD.own x14 fun c hc => by
    have : w.w.heap.size ≤ w3.w.heap.size := e123.size
    show w.w.heap.size ≤ c
    rcases hc with h | h | h <;> omega
  have TT : ∀ c, (c = tt ∨ c = b3 ∨ c = b4) → c < w13.w.heap.size ∧ w3.w.heap.size ≤ c := fun c hc => by rcases hc with h | h | h <;> omega
  have L1 := L1.extX x14 fun c hc h => by have := k1' c hc; rcases h with h | h | h <;> omega
  have hs := hs.extN x14 fun hl c hc h => hns c (TT c h).2 hl hc
  have hc := hc.extX x14 fun c hc h => h.elim (hck c hc).1 (hck c hc).2
  have dx := dz_of_sz hx
  refine j1 (fun (r : Bool) w' => r = true ∧ Ext none_ w.here w') ?_ ?_
  · refine cnd_t rfl ⟨_, f3.cell, cnd_t rfl ⟨_, f4.cell, cnd_t rfl ?_⟩⟩
    refine c1 (law11_from hs (by omega)) fun s5 w15 e15 h5 => ?_
    refine c1 (law11_from (hs.ext e15) (by omega)) fun s6 w16 e16 h6 => ?_
    refine c1 (ref_Mul (h5.ext e16).dr h6.dr (by omega) (by omega)) fun s7 w17 e17 h7 => ?_
    have hdz := dz_mul (vl W64 l) (vl W64 l)
    have f := (e15.trans e16).trans e17
    refine sm h7.dr (On.ext ho f) (by omega) rfl fun w18 e18 => cnd_t rfl ?_
    have f := f.trans e18
    exact tact L1 hs f (by omega) fun w20 f20 => cnd_t rfl (wk11 fun w21 e21 => ⟨rfl, (eE.trans f20).trans e21⟩)
  rintro r w15 ⟨rfl, f⟩
  exact rt1 (c := .bool) _ f rfl
end Go.Proofs.Ytdkhilllajdnpaa.Zg
end

section
namespace Go.Proofs.Ytdkhilllajdnpaa.Zg
open Go.RowKit

/-- Three own rows, each of its length. -/
def Three (B N1 N2 N3 : Nat) (s1 s2 s3 : Sl) (w0 w : TW) : Prop := ∃ l1 l2 l3, Ow w B s1 l1 ∧ l1.length = N1 ∧ Ow w B s2 l2 ∧ l2.length = N2 ∧ Ow w B s3 l3 ∧ l3.length = N3 ∧ (∀ c, s1.blk = some c → s2.blk ≠ some c) ∧ (∀ c, s1.blk = some c → s3.blk ≠ some c) ∧ (∀ c, s2.blk = some c → s3.blk ≠ some c) ∧ Ext none_ w0 w
theorem Three.s12 {B N1 N2 N3 : Nat} {s1 s2 s3 : Sl} {w0 w : TW} (h : Three B N1 N2 N3 s1 s2 s3 w0 w) : Three B N2 N1 N3 s2 s1 s3 w0 w := by
  obtain ⟨l1, l2, l3, a1, b1, a2, b2, a3, b3, d12, d13, d23, e⟩ := h
  exact ⟨l2, l1, l3, a2, b2, a1, b1, a3, b3, fun c h1 h2 => d12 c h2 h1, d23, d13, e⟩
theorem Three.s23 {B N1 N2 N3 : Nat} {s1 s2 s3 : Sl} {w0 w : TW} (h : Three B N1 N2 N3 s1 s2 s3 w0 w) : Three B N1 N3 N2 s1 s3 s2 w0 w := by
  obtain ⟨l1, l2, l3, a1, b1, a2, b2, a3, b3, d12, d13, d23, e⟩ := h
  exact ⟨l1, l3, l2, a1, b1, a3, b3, a2, b2, d13, d12, fun c h1 h2 => d23 c h2 h1, e⟩
theorem Three.set {B N1 N2 N3 : Nat} {s1 s2 s3 : Sl} {w0 w : TW} (h : Three B N1 N2 N3 s1 s2 s3 w0 w) (hB : w0.w.heap.size ≤ B) {i : Int} {j x : Nat} (hi : i = j) (hj : j < N1) (hx : x < W64) {y : Int} (hy : y = x) {K : TW → Prop} (hK : ∀ w', Three B N1 N2 N3 s1 s2 s3 w0 w' → K w') : ixa s1 i 1 (fun c => stc w c (.int .u64 y) K) := by
  obtain ⟨l1, l2, l3, a1, b1, a2, b2, a3, b3, d12, d13, d23, e⟩ := h
  exact a1.store hi (by omega) hx hy fun w' h' e' => hK w' ⟨_, l2, l3, h', by simp [b1], a2.extX e' fun c hc h => d12 c h hc, b2, a3.extX e' fun c hc h => d13 c h hc, b3, d12, d13, d23, e.own e' fun c hc => Nat.le_trans hB (a1.blk_le c hc)⟩
theorem three_of {w0 wA w4 w5 w6 : TW} {B : Nat} {s1 s2 s3 : Sl} {l1 l2 l3 : List Nat} (e0 : Ext none_ w0 wA) (hB : B ≤ wA.w.heap.size) (h4 : Ow w4 wA.w.heap.size s1 l1) (e4 : Ext none_ wA w4) (h5 : Ow w5 w4.w.heap.size s2 l2) (e5 : Ext none_ w4 w5) (h6 : Ow w6 w5.w.heap.size s3 l3) (e6 : Ext none_ w5 w6) :
    Three B l1.length l2.length l3.length s1 s2 s3 w0 w6 := by
  have z4 := e4.size
  have z5 := e5.size
  refine ⟨l1, l2, l3, ((h4.less hB).ext e5).ext e6, rfl, (h5.less (by omega)).ext e6, rfl, h6.less (by omega), rfl, fun c k1 k2 => ?_, fun c k1 k2 => ?_, fun c k1 k2 => ?_, ((e0.trans e4).trans e5).trans e6⟩
  · have := (h4.from_ c k1).2; have := h5.blk_le c k2; omega
  · have := (h4.from_ c k1).2; have := h6.blk_le c k2; omega
  · have := (h5.from_ c k1).2; have := h6.blk_le c k2; omega
theorem three_mk {w0 wA w4 w5 w6 : TW} {B n1 n2 n3 : Nat} {s1 s2 s3 : Sl} (e0 : Ext none_ w0 wA) (hB : B ≤ wA.w.heap.size) (h4 : Ow w4 wA.w.heap.size s1 (List.replicate n1 0)) (e4 : Ext none_ wA w4) (h5 : Ow w5 w4.w.heap.size s2 (List.replicate n2 0)) (e5 : Ext none_ w4 w5) (h6 : Ow w6 w5.w.heap.size s3 (List.replicate n3 0)) (e6 : Ext none_ w5 w6) :
    Three B n1 n2 n3 s1 s2 s3 w0 w6 := by
  have := three_of e0 hB h4 e4 h5 e5 h6 e6
  simpa using this

theorem law11_ToomGreat {w : TW} {t : HL I11} {n m a0 : Int} (_ : -9223372036854775808 ≤ n ∧ n ≤ 9223372036854775807) (_ : -9223372036854775808 ≤ m ∧ m ≤ 9223372036854775807) (_ : -9223372036854775808 ≤ a0 ∧ a0 ≤ 9223372036854775807) : Ct Pg F.zigguratlaw11_ToomGreat [.agg (encs I11 t).toArray, .int .i64 n, .int .i64 m, .int .i64 a0] w none_ [.one .bool] fun (r : Bool) _ => r = true := by
  refine Ct.zigguratlaw11_ToomGreat ?_
  unfold Sh.zigguratlaw11_ToomGreat
  intro w1 e1
  refine c1 (keep_Within (by decide) (by decide)) ?_
  rintro r w2 e2 ⟨r0, r1⟩
  refine bnd_wi (by omega) (by omega) (c1 (keep_Within (by decide) (by decide)) ?_)
  rintro q w3 e3 ⟨q0, q1⟩
  refine bnd_wi (by omega) (by omega) ?_
  obtain ⟨N, hN⟩ : ∃ N : Nat, (3 + r : Int) = N := ⟨(3 + r).toNat, by omega⟩
  obtain ⟨M, hM⟩ : ∃ M : Nat, (3 + q : Int) = M := ⟨(3 + q).toNat, by omega⟩
  rw [hN, hM]
  have e13 := ((e1.trans e2).trans e3).drew
  have z13 : w.here.w.heap.size ≤ w3.drew.w.heap.size := e13.size
  refine ⟨fun a b c _ _ _ _ _ _ _ _ _ _ _ w8 => Three w.here.w.heap.size N M N a b c w.here w8, ⟨?_, ?_, ?_⟩, ?_⟩
  · exact mk_u64 (N := N) rfl (by omega) fun s1 w4 h4 _ e4 k4 => ⟨mk_u64 (N := M) rfl (by omega) fun s2 w5 h5 _ e5 k5 => mk_u64 (N := N) rfl (by omega) fun s3 w6 h6 _ e6 k6 => three_mk e13 z13 h4 e4 h5 e5 h6 e6, mk_u64 (N := N) rfl (by omega) fun s2 w5 h5 _ e5 k5 => mk_u64 (N := M) rfl (by omega) fun s3 w6 h6 _ e6 k6 => (three_mk e13 z13 h4 e4 h5 e5 h6 e6).s23⟩
  · exact mk_u64 (N := M) rfl (by omega) fun s1 w4 h4 _ e4 k4 => ⟨mk_u64 (N := N) rfl (by omega) fun s2 w5 h5 _ e5 k5 => mk_u64 (N := N) rfl (by omega) fun s3 w6 h6 _ e6 k6 => (three_mk e13 z13 h4 e4 h5 e5 h6 e6).s12, mk_u64 (N := N) rfl (by omega) fun s2 w5 h5 _ e5 k5 => mk_u64 (N := N) rfl (by omega) fun s3 w6 h6 _ e6 k6 => (three_mk e13 z13 h4 e4 h5 e5 h6 e6).s23.s12⟩
  · exact mk_u64 (N := N) rfl (by omega) fun s1 w4 h4 _ e4 k4 => ⟨mk_u64 (N := N) rfl (by omega) fun s2 w5 h5 _ e5 k5 => mk_u64 (N := M) rfl (by omega) fun s3 w6 h6 _ e6 k6 => (three_mk e13 z13 h4 e4 h5 e5 h6 e6).s12.s23, mk_u64 (N := M) rfl (by omega) fun s2 w5 h5 _ e5 k5 => mk_u64 (N := N) rfl (by omega) fun s3 w6 h6 _ e6 k6 => (three_mk e13 z13 h4 e4 h5 e5 h6 e6).s23.s12.s23⟩
  intro a b c _ _ _ _ _ _ _ _ _ _ _ w8 h8
  refine ⟨fun _ _ _ _ _ _ _ _ _ _ _ w9 => Three w.here.w.heap.size N M N a b c w.here w9, ?_, ?_⟩
  · refine ⟨fun k (i : Int) _ _ _ _ _ _ _ _ _ _ _ w9 => ∃ j : Nat, i = j ∧ k = N - j ∧ Three w.here.w.heap.size N M N a b c w.here w9, ⟨N, 0, rfl, by omega, h8⟩, ?_⟩
    rintro k (i : Int) _ _ _ _ _ _ _ _ _ _ _ w9 ⟨j, rfl, rfl, h9⟩
    refine cnd_d (fun h => ?_) (fun h => h9)
    exact h9.set (Nat.le_refl _) rfl (by omega) (x := 18446744073709551615) (by decide) rfl fun w10 h10 => bnd_wi (by omega) (by omega) ⟨N - (j + 1), by omega, j + 1, by omega, rfl, h10⟩
  intro _ _ _ _ _ _ _ _ _ _ _ w9 h9
  refine ⟨fun _ _ _ _ _ _ _ _ _ _ _ w9 => Three w.here.w.heap.size N M N a b c w.here w9, ?_, ?_⟩
  · refine ⟨fun k (i : Int) _ _ _ _ _ _ _ _ _ _ _ w9 => ∃ j : Nat, i = j ∧ k = M - j ∧ Three w.here.w.heap.size N M N a b c w.here w9, ⟨M, 0, rfl, by omega, h9⟩, ?_⟩
    rintro k (i : Int) _ _ _ _ _ _ _ _ _ _ _ w9 ⟨j, rfl, rfl, h9⟩
    refine cnd_d (fun h => ?_) (fun h => h9)
    exact h9.s12.set (Nat.le_refl _) rfl (by omega) (x := 18446744073709551615) (by decide) rfl fun w10 h10 => bnd_wi (by omega) (by omega) ⟨M - (j + 1), by omega, j + 1, by omega, rfl, h10.s12⟩
  intro t1 t2 t3 t4 t5 t6 t7 t8 t9 t10 t11 w10 h10
  refine c1 (keep_Within (by omega) (by omega)) ?_
  rintro r2 w11 e11 ⟨r20, r21⟩
  have h11 : Three w.here.w.heap.size N M N a b c w.here w11 := by
    obtain ⟨l1, l2, l3, a1, b1, a2, b2, a3, b3, d12, d13, d23, e⟩ := h10
    exact ⟨l1, l2, l3, a1.ext e11, b1, a2.ext e11, b2, a3.ext e11, b3, d12, d13, d23, e.trans e11⟩
  refine h11.s23.s12.set (j := r2.toNat) (Nat.le_refl _) (by omega) (by omega) (x := 9223372036854775808) (by decide) rfl fun w12 h12 => ?_
  obtain ⟨lc, la, lb, hc, -, ha, -, hb, -, -, -, -, e10⟩ := h12
  have ha := ha.rd
  have hb := hb.rd
  have hc := hc.rd
  refine j1 (fun (r : Bool) w' => r = true ∧ Ext none_ w.here w') ?_ ?_
  · refine c1 (law11_ToomMuls (t := (t1, t2, t3, t4, t5, t6, t7, t8, t9, t10, t11, ())) ⟨_, ha⟩ ⟨_, hb⟩) ?_
    rintro r w13 e13 rfl
    refine cnd_t rfl (c1 (law11_ToomMuls (t := (t1, t2, t3, t4, t5, t6, t7, t8, t9, t10, t11, ())) ⟨_, hc.ext e13⟩ ⟨_, hb.ext e13⟩) ?_)
    rintro r w14 e14 rfl
    have f := e13.trans e14
    refine cnd_t rfl (c1 (law11_ToomMuls (t := (t1, t2, t3, t4, t5, t6, t7, t8, t9, t10, t11, ())) ⟨_, hc.ext f⟩ ⟨_, ha.ext f⟩) ?_)
    rintro r w15 e15 rfl
    have f := f.trans e15
    refine cnd_t rfl (c1 (law11_ToomSquares (t := (t1, t2, t3, t4, t5, t6, t7, t8, t9, t10, t11, ())) ⟨_, ha.ext f⟩) ?_)
    rintro r w16 e16 rfl
    have f := f.trans e16
    refine cnd_t rfl (c1 (law11_ToomSquares (t := (t1, t2, t3, t4, t5, t6, t7, t8, t9, t10, t11, ())) ⟨_, hc.ext f⟩) ?_)
    rintro r w17 e17 rfl
    exact cnd_t rfl (wk11 fun w18 e18 => ⟨rfl, ((e10.trans f).trans e17).trans e18⟩)
  rintro r w' ⟨rfl, f⟩
  exact rt1 (c := .bool) _ f rfl
end Go.Proofs.Ytdkhilllajdnpaa.Zg
end
