/- A part of the proofs of this seat's laws: words, lemmas or contracts of its functions. -/
import Derived.Test.YticehedkalheiaaGreatDoorGHC
set_option linter.unusedVariables false
set_option linter.unusedSimpArgs false
set_option linter.unnecessarySimpa false
section
namespace Go.Proofs.YticehedkalheiaaGreatDoor.Zg
open Go.RowKit
section
variable {α : Type} {f : α → List Value} {k : Nat}
theorem fm_len (hf : ∀ x, (f x).length = k) : ∀ l : List α, (l.flatMap f).length = k * l.length
  | [] => by simp
  | x :: l => by rw [List.flatMap_cons, List.length_append, hf, fm_len hf l, List.length_cons, Nat.mul_add, Nat.mul_one, Nat.add_comm]
theorem fm_get (hf : ∀ x, (f x).length = k) : ∀ {l : List α} {i : Nat} (h : i < l.length) {j : Nat}, j < k → (l.flatMap f)[k * i + j]? = (f l[i])[j]?
  | x :: l, 0, h, j, hj => by
    rw [List.flatMap_cons, Nat.mul_zero, Nat.zero_add, List.getElem?_append_left (by rw [hf]; exact hj)]; rfl
  | x :: l, i + 1, h, j, hj => by
    rw [List.flatMap_cons, List.getElem?_append_right (by rw [hf, Nat.mul_add]; omega), hf, show k * (i + 1) + j - k = k * i + j by rw [Nat.mul_add]; omega, fm_get hf (by simpa using h) hj]
    rfl
theorem Rdv.lenk (hf : ∀ x, (f x).length = k) (hk : 0 < k) {w : TW} {s : Sl} {l : List α} (h : Rdv w k s (l.flatMap f)) : s.n = l.length := by
  have h1 := h.1
  rw [fm_len hf, Nat.mul_comm] at h1
  exact (Nat.eq_of_mul_eq_mul_right hk h1).symm
theorem Rdv.atk (hf : ∀ x, (f x).length = k) (hk : 0 < k) {w : TW} {s : Sl} {l : List α} (h : Rdv w k s (l.flatMap f)) {i : Int} {j : Nat} (hi : i = j) (hj : j < l.length) {K : Addr → Prop} (hK : ∀ a : Addr, (∀ m, m < k → w.w.cell? (a.add m) = (f l[j])[m]?) → K a) : ixa s i k K := by
  subst hi
  have hn := h.lenk hf hk
  obtain ⟨_, _, _, h4⟩ := h
  obtain ⟨b, o, hp, hV, hc⟩ := h4 (fun e => by have := congrArg List.length e; rw [fm_len hf, List.length_nil] at this; have := Nat.mul_pos hk (show 0 < l.length by omega); omega)
  refine ⟨⟨b, o, none⟩, hp, by omega, by omega, ?_⟩
  rw [addp]
  refine hK _ fun m hm => ?_
  have hlt : m < (f l[j]).length := by rw [hf]; exact hm
  have e : o + (j : Int).toNat * k + m = o + (k * j + m) := by rw [Int.toNat_natCast, Nat.mul_comm]; omega
  rw [addp, e]
  have hg := fm_get hf hj hm
  rw [List.getElem?_eq_getElem hlt] at hg ⊢
  exact hc _ _ hg
theorem pushk (hf : ∀ x, (f x).length = k) (hk : 0 < k) (ho : ∀ x, ∀ v ∈ f x, v.oneCell' = true) {by_ : Nat} (hb : by_ ≤ 1024) {w0 w : TW} {e : TypeId} {s : Sl} {x : α} {l : List α} (h : Own w w0.w.heap.size e k s (l.flatMap f)) (ex : Ext none_ w0 w) (hn : l.length + 1 ≤ 1073741824) {K : Sl → TW → Prop}
    (hK : ∀ s' w', Own w' w0.w.heap.size e k s' ((l ++ [x]).flatMap f) → Ext none_ w0 w' → Ext (fun c => s.blk = some c) w w' → K s' w') : nwb w (f x) e fun b w' => apd w' e k by_ s ⟨some ⟨b, 0, none⟩, 1, 1⟩ K := by
  intro b w1 hw
  have e1 : Ext none_ w w1 := hw.ext _
  have h := h.ext e1 fun _ _ h => h
  have h1 := h.rdv.lenk hf hk
  have hle := Nat.le_trans ex.size e1.size
  refine ⟨w0.w.heap.size, l.flatMap f, f x, h, ⟨by rw [hf]; simp, Nat.le_refl _, by show 1 ≤ maxLen; decide, fun _ => ⟨b, 0, rfl, fun hV => ?_, fun j v hj => ?_⟩⟩, hle, ho x, ?_, ?_, fun s' w' ho _ hx _ => hK s' w' (by simpa using ho) ?_ (e1.any.trans hx)⟩
  · rw [hw.V] at hV
    have := w.lt _ hV
    have := hw.at_
    omega
  · rw [cell_of_row w1.w b (0 + j) _ e (0, 0) hw.heap]
    simpa using hj
  · show s.n + 1 ≤ 9223372036854775807; omega
  · show (s.n + 1) * by_ ≤ _
    have := Nat.mul_le_mul (show s.n + 1 ≤ 1073741824 by omega) hb
    omega
  · exact (ex.trans e1).own hx fun b hb => (h.from_ b hb).1
/-- Own slices of two types lie in two blocks. -/
theorem own_ne {w : TW} {B C : Nat} {e e' : TypeId} {j k : Nat} {s u : Sl} {vs us : List Value} (h : Own w B e j s vs) (h' : Own w C e' k u us) (hne : e ≠ e') : ∀ b, s.blk = some b → ¬ u.blk = some b := by
  intro b hs hu
  rcases h.form with ⟨rfl, _⟩ | ⟨c, cur, hp, _, hg, _⟩
  · simp [Sl.blk] at hs
  · rcases h'.form with ⟨rfl, _⟩ | ⟨c', cur', hp', _, hg', _⟩
    · simp [Sl.blk] at hu
    · have h1 : c = b := by simpa [Sl.blk, hp] using hs
      have h2 : c' = b := by simpa [Sl.blk, hp'] using hu
      subst h1 h2
      rw [hg] at hg'
      simp only [Option.some.injEq, Obj.cells.injEq] at hg'
      exact hne hg'.2.1
theorem Own.nilk (w : TW) (B : Nat) (e : TypeId) : Own w B e k Sl.nil (([] : List α).flatMap f) := ⟨⟨(Nat.zero_mul k).symm, .inl ⟨rfl, rfl⟩⟩, fun b h => by simp [Sl.blk] at h⟩
end
abbrev S4t : Type := Sl × Sl × Sl × Sl
abbrev N4t : Type := Nat × Nat × Nat × Nat
def m4v (t : S4t) : List Value := [t.1.v, t.2.1.v, t.2.2.1.v, t.2.2.2.v]
theorem m4v_len (t : S4t) : (m4v t).length = 4 := rfl
theorem m4v_one (t : S4t) : ∀ v ∈ m4v t, v.oneCell' = true := by
  intro v hv
  simp [m4v] at hv
  rcases hv with rfl | rfl | rfl | rfl <;> rfl
theorem m4v_ne (l : List S4t) : ∀ v ∈ l.flatMap m4v, ∀ x : Int, v ≠ .int .i64 x := by
  intro v hv x
  obtain ⟨n, _, hn⟩ := List.mem_flatMap.1 hv
  simp [m4v] at hn
  rcases hn with rfl | rfl | rfl | rfl <;> simp
/-- A matrix of rows of at most three words. -/
structure M3 (w : TW) (t : S4t) (v : N4t) : Prop where
  n : N4 w t.1 t.2.1 t.2.2.1 t.2.2.2 v.1 v.2.1 v.2.2.1 v.2.2.2
  s : S4 3 v.1 v.2.1 v.2.2.1 v.2.2.2
  l : t.1.n ≤ 3 ∧ t.2.1.n ≤ 3 ∧ t.2.2.1.n ≤ 3 ∧ t.2.2.2.n ≤ 3
theorem M3.ext {w w' : TW} {t : S4t} {v : N4t} (h : M3 w t v) (e : Ext none_ w w') : M3 w' t v := ⟨h.n.ext e, h.s, h.l⟩
theorem M3.extT {w w' : TW} {b : Nat} {t : S4t} {v : N4t} (h : M3 w t v) (hT : Tz w b) (e : Xt1 b w w') : M3 w' t v := ⟨h.n.extT hT e, h.s, h.l⟩
theorem M3.here {w : TW} {t : S4t} {v : N4t} (h : M3 w t v) : M3 w.here t v := ⟨h.n.here, h.s, h.l⟩
structure Rm (w : TW) (s : Sl) (vs : List N4t) : Prop where
  ex : ∃ ts : List S4t, Rdv w 4 s (ts.flatMap m4v) ∧ ts.length = vs.length ∧ ∀ i, ∀ h : i < ts.length, M3 w ts[i] (vs.getD i (0, 0, 0, 0))
theorem Rm.here {w : TW} {s : Sl} {vs : List N4t} (h : Rm w s vs) : Rm w.here s vs := by
  obtain ⟨ts, h1, h2, h3⟩ := h.ex
  exact ⟨ts, h1.here, h2, fun i hi => (h3 i hi).here⟩
theorem Rm.ext {w w' : TW} {s : Sl} {vs : List N4t} (h : Rm w s vs) (e : Ext none_ w w') : Rm w' s vs := by
  obtain ⟨ts, h1, h2, h3⟩ := h.ex
  exact ⟨ts, h1.extN e, h2, fun i hi => (h3 i hi).ext e⟩
theorem Rm.extT {w w' : TW} {b : Nat} {s : Sl} {vs : List N4t} (h : Rm w s vs) (hT : Tz w b) (e : Xt1 b w w') : Rm w' s vs := by
  obtain ⟨ts, h1, h2, h3⟩ := h.ex
  exact ⟨ts, h1.extT (m4v_ne ts) hT e, h2, fun i hi => (h3 i hi).extT hT e⟩
theorem Rm.len {w : TW} {s : Sl} {vs : List N4t} (h : Rm w s vs) : s.n = vs.length := by
  obtain ⟨ts, h1, h2, h3⟩ := h.ex
  rw [h1.lenk m4v_len (by decide), h2]
theorem Rdv.at4 {w : TW} {s : Sl} {ts : List S4t} (h : Rdv w 4 s (ts.flatMap m4v)) {i : Int} {j : Nat} (hi : i = j) (hj : j < ts.length) {K : Sl → Sl → Sl → Sl → Prop} (hK : K ts[j].1 ts[j].2.1 ts[j].2.2.1 ts[j].2.2.2) :
    ixa s i 4 fun a => ldc (.slice) w (a.add 0) fun (v : Sl) => ldc (.slice) w (a.add 1) fun (v1 : Sl) => ldc (.slice) w (a.add 2) fun (v2 : Sl) => ldc (.slice) w (a.add 3) fun (v3 : Sl) => K v v1 v2 v3 :=
  h.atk m4v_len (by decide) hi hj fun a ha => ⟨_, ha 0 (by decide), _, ha 1 (by decide), _, ha 2 (by decide), _, ha 3 (by decide), hK⟩
/-- The product of two; of all. -/
def mmul (x y : N4t) : N4t := (x.1 * y.1 + x.2.1 * y.2.2.1, x.1 * y.2.1 + x.2.1 * y.2.2.2, x.2.2.1 * y.1 + x.2.2.2 * y.2.2.1, x.2.2.1 * y.2.1 + x.2.2.2 * y.2.2.2)
def mprod (vs : List N4t) : N4t := vs.foldl mmul (1, 0, 0, 1)
theorem mprod_take {vs : List N4t} {j : Nat} (h : j < vs.length) : mprod (vs.take (j + 1)) = mmul (mprod (vs.take j)) (vs.getD j (0, 0, 0, 0)) := by
  rw [mprod, List.take_succ_eq_append_getElem h, List.foldl_append]
  simp [mprod, h]
theorem sz_two_mul {a b c d n m : Nat} (ha : sz a ≤ n) (hb : sz b ≤ m) (hc : sz c ≤ n) (hd : sz d ≤ m) : sz (a * b + c * d) ≤ n + m + 1 := by
  have h1 := sz_mul a b
  have h2 := sz_mul c d
  have h3 := sz_add (a * b) (c * d)
  omega
theorem mmul_s4 {x y : N4t} {n m : Nat} (hx : S4 n x.1 x.2.1 x.2.2.1 x.2.2.2) (hy : S4 m y.1 y.2.1 y.2.2.1 y.2.2.2) : S4 (n + m + 1) (mmul x y).1 (mmul x y).2.1 (mmul x y).2.2.1 (mmul x y).2.2.2 := by
  obtain ⟨h1, h2, h3, h4⟩ := hx
  obtain ⟨g1, g2, g3, g4⟩ := hy
  exact ⟨sz_two_mul h1 g1 h2 g3, sz_two_mul h1 g2 h2 g4, sz_two_mul h3 g1 h4 g3, sz_two_mul h3 g2 h4 g4⟩
theorem S4.le {n m A B C D : Nat} (h : S4 n A B C D) (hn : n ≤ m) : S4 m A B C D := ⟨Nat.le_trans h.1 hn, Nat.le_trans h.2.1 hn, Nat.le_trans h.2.2.1 hn, Nat.le_trans h.2.2.2 hn⟩
theorem S4.z4 {n A B C D : Nat} (h : S4 n A B C D) : Z4 (2 * n) A B C D := ⟨dz_of_sz h.1, dz_of_sz h.2.1, dz_of_sz h.2.2.1, dz_of_sz h.2.2.2⟩
theorem s4_one : S4 1 1 0 0 1 := ⟨sz_word (by decide), by rw [sz0]; omega, by rw [sz0]; omega, sz_word (by decide)⟩
theorem mmul_one (y : N4t) : mmul (1, 0, 0, 1) y = y := by obtain ⟨a, b, c, d⟩ := y; simp [mmul]
section
variable {w : TW} {p : Option Addr} {hg g po nu ra ro dv rc c m d k e t : Nat} {now : Int} {tab : List Int}
theorem hgcd_Times {l : Sl} {vs : List N4t} (hE : Eg w p [hg, g, po, nu, ra, ro, dv, rc, c, m, d, k, e] t now tab) (hl : Rm w l vs) (hn : vs.length ≤ 1024) (h0 : 0 ≤ now) (h1 : now ≤ 1000000000000000000) :
    Ct Pg F.hgcd_Engine_Times [.pointer p, l.v] w (fun k => k = t) M4 fun (a b c' d' : Sl) w' => O4 w' w.w.heap.size a b c' d' (mprod vs).1 (mprod vs).2.1 (mprod vs).2.2.1 (mprod vs).2.2.2 ∧ S4 (4 * vs.length + 1) (mprod vs).1 (mprod vs).2.1 (mprod vs).2.2.1 (mprod vs).2.2.2 ∧ Eg w' p [hg, g, po, nu, ra, ro, dv, rc, c, m, d, k, e] t now tab := by
  refine Ct.hgcd_Engine_Times ?_
  unfold Sh.hgcd_Engine_Times
  intro w1 e1
  refine cl0 hgcd_Unit ?_
  rintro r r1 r2 r3 w2 e2 hU
  intro w3 e3 w4 e4
  have e24 := e3.trans e4
  have e14 := (e1.trans e2).trans e24
  have hU := (hU.ext e24).less e1.size
  have hE4 := hE.here.ext e14
  have hl4 := hl.here.ext e14
  have nl := hl.len
  rw [nl]
  refine ⟨fun (_ _ _ _ : Sl) (a b c' d' : Sl) w14 => (O4 w14 w.w.heap.size a b c' d' (mprod vs).1 (mprod vs).2.1 (mprod vs).2.2.1 (mprod vs).2.2.2 ∧ S4 (4 * vs.length + 1) (mprod vs).1 (mprod vs).2.1 (mprod vs).2.2.1 (mprod vs).2.2.2) ∧ Xt1 t w4 w14 ∧ Eg w14 p [hg, g, po, nu, ra, ro, dv, rc, c, m, d, k, e] t now tab, ?_, ?_⟩
  · refine ⟨fun (M : Nat) (i : Int) (_ _ _ _ : Sl) (a b c' d' : Sl) w5 => ∃ (j : Nat) (V : N4t), i = j ∧ M = vs.length - j ∧ j ≤ vs.length ∧ V = mprod (vs.take j) ∧ O4 w5 w.w.heap.size a b c' d' V.1 V.2.1 V.2.2.1 V.2.2.2 ∧ S4 (4 * j + 1) V.1 V.2.1 V.2.2.1 V.2.2.2 ∧ Xt1 t w4 w5 ∧ Eg w5 p [hg, g, po, nu, ra, ro, dv, rc, c, m, d, k, e] t now tab, ⟨vs.length, 0, (1, 0, 0, 1), rfl, by omega, by omega, rfl, hU, s4_one, Ext.refl _ _, hE4⟩, ?_⟩
    rintro M i _ _ _ _ a b c' d' w5 ⟨j, V, rfl, rfl, hj, hV, hO, hS, x5, hE5⟩
    refine cnd_d (fun h => ?_) (fun h => ?_)
    · have hj1 : j < vs.length := by omega
      have hstep := mprod_take hj1
      rw [← hV] at hstep
      refine ⟨fun (_ _ _ _ : Sl) (a b c' d' : Sl) w13 => (O4 w13 w.w.heap.size a b c' d' (mprod (vs.take (j + 1))).1 (mprod (vs.take (j + 1))).2.1 (mprod (vs.take (j + 1))).2.2.1 (mprod (vs.take (j + 1))).2.2.2 ∧ S4 (4 * (j + 1) + 1) (mprod (vs.take (j + 1))).1 (mprod (vs.take (j + 1))).2.1 (mprod (vs.take (j + 1))).2.2.1 (mprod (vs.take (j + 1))).2.2.2) ∧ Xt1 t w4 w13 ∧ Eg w13 p [hg, g, po, nu, ra, ro, dv, rc, c, m, d, k, e] t now tab, ?_, ?_⟩
      · obtain ⟨ts, g1, g2, g3⟩ := (hl4.extT hE4.tz x5).ex
        refine g1.at4 rfl (show j < ts.length by omega) ?_
        have hM := g3 j (by omega)
        generalize ts[j] = T at *
        have hsm := mmul_s4 hS hM.s
        rw [← hstep] at hsm
        have hsm := hsm.le (show 4 * j + 1 + 3 + 1 ≤ 4 * (j + 1) + 1 by omega)
        generalize vs.getD j (0, 0, 0, 0) = Y at *
        intro w6 e6 w7 e7
        have e57 := e6.trans e7
        have hM := hM.ext e57
        have hO := hO.ext e57
        have hE7 := hE5.ext e57
        have x7 := x5.trans e57.any
        have z7 : w.w.heap.size ≤ w7.w.heap.size := (e14.any.trans x7).size
        refine cnd_i (fun h0' => ?_) (fun h0' => ?_)
        · simp only [beq_iff_eq] at h0'
          have : j = 0 := by omega
          subst this
          have hV1 : V = (1, 0, 0, 1) := hV
          subst hV1
          rw [mmul_one] at hstep
          rw [hstep]
          rw [hstep] at hsm
          refine cl0 (hgcd_norm hM.n (hM.s.le (by decide))) ?_
          rintro r4 r5 r6 r7 w8 e8 hN
          intro w9 e9
          exact ⟨⟨(hN.ext e9).less z7, hsm⟩, x7.trans (e8.trans e9).any, hE7.ext (e8.trans e9)⟩
        · obtain ⟨s1, s2, s3, s4⟩ := hM.s
          refine t2 hE7.tz (hgcd_Apply hE7 hO.n hM.n.a hM.n.c (hS.le (by omega)) (by omega) (by omega) h0 h1) ?_
          rintro q0 q1 w10 x10 ⟨k1, k2, hE10⟩
          have hO := hO.extT hE7.tz x10
          have hM := hM.extT hE7.tz x10
          refine t2 hE10.tz (hgcd_Apply hE10 hO.n hM.n.b hM.n.d (hS.le (by omega)) (by omega) (by omega) h0 h1) ?_
          rintro q2 q3 w11 x11 ⟨k3, k4, hE11⟩
          have k1 := k1.extT hE10.tz x11
          have k2 := k2.extT hE10.tz x11
          intro w12 e12
          have z10 : w.w.heap.size ≤ w10.w.heap.size := Nat.le_trans z7 x10.size
          rw [hstep]
          rw [hstep] at hsm
          exact ⟨⟨⟨(On.ext k1 e12).less z7, (On.ext k3 e12).less z10, (On.ext k2 e12).less z7, (On.ext k4 e12).less z10⟩, hsm⟩, ((x7.trans x10).trans x11).trans e12.any, hE11.ext e12⟩
      rintro _ _ _ _ a b c' d' w13 ⟨⟨hO, hS⟩, x13, hE13⟩
      exact bnd_wi (by omega) (by omega) ⟨vs.length - (j + 1), by omega, j + 1, _, by omega, rfl, by omega, rfl, hO, hS, x13, hE13⟩
    · have : j = vs.length := by omega
      subst this
      rw [List.take_length] at hV
      subst hV
      exact ⟨⟨hO, hS⟩, x5, hE5⟩
  rintro _ _ _ _ a b c' d' w14 ⟨⟨hO, hS⟩, x14, hE14⟩
  intro w15 e15
  exact ⟨(_, _, _, _, ()), rfl, (e14.any.trans x14).trans e15.any, (hO.ext e15).at, hS, (hE14.ext e15).at⟩
end
end Go.Proofs.YticehedkalheiaaGreatDoor.Zg
end

section
namespace Go.Proofs.YticehedkalheiaaGreatDoor.Zg
open Go.RowKit
theorem getD_nil_take {l : List (List Nat)} {j : Nat} (h : ¬ j < l.length) : (l.getD j []).take 3 = [] := by
  rw [List.getD_eq_getElem?_getD, List.getElem?_eq_none (by omega)]; rfl
theorem Rdv.at1 {w : TW} {s : Sl} {ss : List Sl} (h : Rdv w 1 s (ss.map Sl.v)) {i : Int} {j : Nat} (hi : i = j) (hj : j < ss.length) {K : Sl → Prop} (hK : K ss[j]) : ixa s i 1 fun a => ldc (.slice) w a K := by
  have e : ∀ ss : List Sl, ss.map Sl.v = ss.flatMap fun s => [s.v] := fun ss => by
    induction ss with
    | nil => rfl
    | cons x l ih => rw [List.map_cons, List.flatMap_cons, ih]; rfl
  rw [e] at h
  exact h.atk (f := fun s : Sl => [s.v]) (fun _ => rfl) (by decide) hi hj fun a ha => ⟨_, ha 0 (by decide), hK⟩
/-- Rows that were there in w0, in a slice that is there in w. -/
structure Rl2 (w0 w : TW) (s : Sl) (ls : List (List Nat)) : Prop where
  mv : ∀ {s : Sl} {l : List Nat}, Rd w0 s l → Rd w s l
  ex : ∃ ss : List Sl, Rdv w 1 s (ss.map Sl.v) ∧ ss.length = ls.length ∧ s.n = ls.length ∧ ∀ i, ∀ h : i < ss.length, Rd w0 ss[i] (ls.getD i [])
theorem Rl.two {w : TW} {s : Sl} {ls : List (List Nat)} (h : Rl w s ls) : Rl2 w w s ls := by
  have n := h.len
  obtain ⟨ss, h1, h2, h3⟩ := h
  exact ⟨id, ss, h1, h2, n, fun i hi => h3 i _ (List.getElem?_eq_getElem hi)⟩
theorem Rl2.ext {w0 w w' : TW} {s : Sl} {ls : List (List Nat)} (h : Rl2 w0 w s ls) (e : Ext none_ w w') : Rl2 w0 w' s ls := by
  obtain ⟨ss, h1, h2, h3, h4⟩ := h.ex
  exact ⟨fun hr => (h.mv hr).ext e, ss, h1.extN e, h2, h3, h4⟩
theorem Rl2.here {w0 w : TW} {s : Sl} {ls : List (List Nat)} (h : Rl2 w0 w s ls) : Rl2 w0 w.here s ls := by
  obtain ⟨ss, h1, h2, h3, h4⟩ := h.ex
  exact ⟨fun hr => (h.mv hr).here, ss, h1.here, h2, h3, h4⟩
theorem law21_matrix_1 {w0 w : TW} {l : Sl} {ls : List (List Nat)} {b1 b k i : Nat} (hl : Rl2 w0 w l ls) (h1 : Rw w b1 [.int .i64 (i : Int)]) (h2 : Rw w b [l.v]) (hi : i ≤ 1024) (hk : k ≤ 1024) :
    Ct Pg F.zigguratlaw21_matrix_1 [.int .i64 (k : Int), .pointer (some ⟨b1, 0, none⟩), .pointer (some ⟨b, 0, none⟩)] w none_ [.one .slice] fun (s : Sl) _ => Rd w0 s ((ls.getD (4 * i + k) []).take 3) := by
  refine Ct.zigguratlaw21_matrix_1 ?_
  unfold Sh.zigguratlaw21_matrix_1
  obtain ⟨ss, g1, g2, nl, g4⟩ := hl.ex
  have h1 := h1.here
  have h2 := h2.here
  have ld1 : ∀ {K : Int → Prop}, K (i : Int) → ldc (.int .i64) w.here ⟨b1, 0, none⟩ K := fun hK => ⟨(i : Int), by rw [h1.cell]; rfl, hK⟩
  have ld2 : ∀ {K : Sl → Prop}, K l → ldc (.slice) w.here ⟨b, 0, none⟩ K := fun hK => ⟨l, by rw [h2.cell]; rfl, hK⟩
  refine ld1 (bnd_eq (y := ((4 * i : Nat) : Int)) (by show wi (4 * (i : Int)) = _; rw [wi_id (by omega) (by omega)]; omega) (bnd_eq (y := ((4 * i + k : Nat) : Int)) (by show wi (((4 * i : Nat) : Int) + (k : Int)) = _; rw [wi_id (by omega) (by omega)]; omega) (ld2 ?_)))
  rw [nl]
  refine cnd_d (fun h => ?_) (fun h => ?_)
  · have h : 4 * i + k < ls.length := by omega
    refine ld2 (ld1 (bnd_eq (y := ((4 * i : Nat) : Int)) (by show wi (4 * (i : Int)) = _; rw [wi_id (by omega) (by omega)]; omega) (bnd_eq (y := ((4 * i + k : Nat) : Int)) (by show wi (((4 * i : Nat) : Int) + (k : Int)) = _; rw [wi_id (by omega) (by omega)]; omega) ?_)))
    have hj : 4 * i + k < ss.length := by omega
    refine Rdv.at1 g1.here rfl hj ?_
    have ht := g4 _ hj
    refine c1 (keep_Cut (n := 3) (hl.mv ht).here) ?_
    rintro s w1 e1 rfl
    exact rt1 (c := .slice) _ e1 (ht.take 3)
  · rw [getD_nil_take (by omega)]
    exact rt1 (c := .slice) Sl.nil (Ext.refl _ _) (Rd.nil _)
/-- The number of a row, cut at three words. -/
def r3 (ls : List (List Nat)) (j : Nat) : Nat := vl W64 ((ls.getD j []).take 3)
def mat (ls : List (List Nat)) (i : Nat) : N4t := (r3 ls (4 * i), r3 ls (4 * i + 1), r3 ls (4 * i + 2), r3 ls (4 * i + 3))
theorem law21_matrix {w0 w : TW} {l : Sl} {ls : List (List Nat)} {i : Nat} (hl : Rl2 w0 w l ls) (hi : i ≤ 1024) :
    Ct Pg F.zigguratlaw21_matrix [l.v, .int .i64 (i : Int)] w none_ M4 fun (a b c d : Sl) _ => M3 w0 (a, b, c, d) (mat ls i) := by
  have hl0 := hl
  refine Ct.zigguratlaw21_matrix ?_
  unfold Sh.zigguratlaw21_matrix
  refine nw_rw fun b w1 h1 _ e1 => nw_rw fun b1 w2 h2 _ e2 => ?_
  intro w3 e3
  have h1 := (h1.ext e2).ext e3
  have h2 := h2.ext e3
  have e13 := (e1.trans e2).trans e3
  have hl := hl.here.ext e13
  have call : ∀ {v : TW} {kk : Nat} {K : Sl → TW → Prop}, Ext none_ w3 v → kk ≤ 1024 → (∀ s v', Ext none_ v v' → Rd w0 s ((ls.getD (4 * i + kk) []).take 3) → K s v') → clv Pg (.func (.func F.zigguratlaw21_matrix_1) #[] #[.pointer (some ⟨b1, 0, none⟩), .pointer (some ⟨b, 0, none⟩)]) [.int .i64 (kk : Int)] v [.one .slice] K := fun {v kk K} e hk hK =>
    clv_of (by kernel_rfl) (c1 (law21_matrix_1 (w0 := w0) (hl.ext e) (h2.ext e) (h1.ext e) hi hk) hK)
  refine call (kk := 0) (Ext.refl _ _) (by decide) fun s w4 e4 r4 => ?_
  refine call (kk := 1) e4 (by decide) fun s1 w5 e5 r5 => ?_
  have e35 := e4.trans e5
  refine call (kk := 2) e35 (by decide) fun s2 w6 e6 r6 => ?_
  have e36 := e35.trans e6
  refine call (kk := 3) e36 (by decide) fun s3 w7 e7 r7 => ?_
  intro w8 e8
  have tk : ∀ j, ((ls.getD j []).take 3).length ≤ 3 := fun j => by simp; omega
  have sz3 : ∀ {v : TW} {s : Sl} {j : Nat}, Rd v s ((ls.getD j []).take 3) → sz (r3 ls j) ≤ 3 ∧ s.n ≤ 3 := fun {v s j} h => ⟨Nat.le_trans (sz_vl h.sm) (tk j), by rw [h.len]; exact tk j⟩
  exact ⟨(_, _, _, _, ()), rfl, (e13.trans e36).trans (e7.trans e8), ⟨⟨r4.nt, r5.nt, r6.nt, r7.nt⟩, ⟨(sz3 r4).1, (sz3 r5).1, (sz3 r6).1, (sz3 r7).1⟩, ⟨(sz3 r4).2, (sz3 r5).2, (sz3 r6).2, (sz3 r7).2⟩⟩⟩
set_option maxHeartbeats 400000 in
theorem law21_HgcdTimes {w : TW} {t : HL I11} {l a b : Sl} (hG : Gl w) (hl : ArgL w l) (ha : Arg w a) (hb : Arg w b) : Ct Pg F.zigguratlaw21_HgcdTimes [.agg (encs I11 t).toArray, l.v, a.v, b.v] w none_ [.one .bool] fun (r : Bool) _ => r = true := by
  obtain ⟨ls, hl⟩ := hl
  obtain ⟨la, ha⟩ := ha
  obtain ⟨lb, hb⟩ := hb
  refine Ct.zigguratlaw21_HgcdTimes ?_
  unfold Sh.zigguratlaw21_HgcdTimes
  intro w1 e1
  refine cutc (n := 4) (ha.here.ext e1) rfl fun s w2 e2 hs _ => cutc (n := 4) ((hb.here.ext e1).ext e2) rfl fun s1 w3 e3 ht _ => ?_
  have hs := hs.ext e3
  have nla : (la.take 4).length ≤ 4 := by simp; omega
  have nlb : (lb.take 4).length ≤ 4 := by simp; omega
  generalize la.take 4 = l1 at *
  generalize lb.take 4 = l2 at *
  have kx := sz_vl hs.sm
  have ky := sz_vl ht.sm
  have dx := dz_of_sz kx
  have dy := dz_of_sz ky
  have e13 := (e1.trans e2).trans e3
  refine hgcd_mk (t := t) (hG.here.ext e13) fun p w4 hg g po nu ra ro dv rc c m d k' e t tab e4 hE htt hp => ?_
  have z : w.w.heap.size ≤ t := Nat.le_trans e13.size htt
  refine cnd_f (by rw [hp]) ?_
  have hs := hs.ext e4
  have ht := ht.ext e4
  have hl4 := (hl.here.ext e13).ext e4
  refine bnd_i ⟨by decide, ?_⟩
  generalize IntKind.i64.wrap ((wi ((l.n : Int) + 3)).tdiv 4) = n1
  refine bnd_i ?_
  obtain ⟨n2, hn2, hle⟩ : ∃ n2, (if (5 : Int) < n1 then 5 else n1) = n2 ∧ n2 ≤ 5 := ⟨_, rfl, by split <;> omega⟩
  rw [hn2]
  refine cl0 r17_Unit ?_
  rintro r r1 r2 r3' w5 e5 hU
  intro w6 e6 w7 e7
  have e57 := e6.trans e7
  have e47 := e5.trans e57
  have hU := hU.ext e57
  have hs := hs.ext e47
  have ht := ht.ext e47
  have hl7 := hl4.ext e47
  have hE7 := hE.ext e47
  refine ⟨fun (ms m0 m1 m2 m3 : Sl) w15 => (∃ vs : List N4t, vs.length ≤ 5 ∧ Rm w15 ms vs ∧ D4 w15 m0 m1 m2 m3 (mprod vs).1 (mprod vs).2.1 (mprod vs).2.2.1 (mprod vs).2.2.2 ∧ S4 21 (mprod vs).1 (mprod vs).2.1 (mprod vs).2.2.1 (mprod vs).2.2.2) ∧ Ext none_ w7 w15, ?_, ?_⟩
  · refine ⟨fun (M : Nat) (ms : Sl) (i : Int) (m0 m1 m2 m3 : Sl) w8 => ∃ (j : Nat) (ts : List S4t) (V : N4t), i = j ∧ M = 5 - j ∧ j ≤ 5 ∧ ts.length = j ∧ Own w8 w7.w.heap.size T.api_Matrix 4 ms (ts.flatMap m4v) ∧ (∀ q, ∀ h : q < ts.length, M3 w7 ts[q] (mat ls q)) ∧ V = mprod ((List.range j).map (mat ls)) ∧ Q4 w8 0 m0 m1 m2 m3 V.1 V.2.1 V.2.2.1 V.2.2.2 ∧ S4 (4 * j + 1) V.1 V.2.1 V.2.2.1 V.2.2.2 ∧ Ext none_ w7 w8, ⟨5, 0, [], (1, 0, 0, 1), rfl, rfl, by decide, rfl, Own.nilk _ _ _, fun q h => (by simp at h), rfl, hU.less (Nat.zero_le _), s4_one, Ext.refl _ _⟩, ?_⟩
    rintro M ms i m0 m1 m2 m3 w8 ⟨j, ts, V, rfl, rfl, hj, hts, hms, hM, hV, hD, hS, e8⟩
    refine cnd_d (fun h => ?_) (fun h => ?_)
    · have h : (j : Int) < n2 := h
      have hj1 : j < 5 := by omega
      refine cl0 (law21_matrix (w0 := w7) (hl7.two.ext e8) (by omega)) ?_
      rintro a0 a1 a2 a3 w9 e9 hA
      refine pushk (f := m4v) m4v_len (by decide) m4v_one (by decide) (x := (a0, a1, a2, a3)) (hms.ext e9 fun _ _ h => h) (e8.trans e9) (by omega) fun ms' w11 hms' e11 x11 => ?_
      have hR : Rdv w11.drew 4 ms' ((ts ++ [(a0, a1, a2, a3)]).flatMap m4v) := hms'.rdv
      refine hR.at4 (j := j) rfl (by simp; omega) ?_
      have hget : (ts ++ [(a0, a1, a2, a3)])[j]'(by simp; omega) = (a0, a1, a2, a3) := by
        subst hts; simp
      rw [hget]
      obtain ⟨y1, y2, y3, y4⟩ := hA.l
      have e11d : Ext none_ w7 w11.drew := e11.drew
      refine cl0 (r17_FromM (hA.ext e11d).n (by show a0.n ≤ _; have : a0.n ≤ 3 := y1; omega) (by show a1.n ≤ _; have : a1.n ≤ 3 := y2; omega) (by show a2.n ≤ _; have : a2.n ≤ 3 := y3; omega) (by show a3.n ≤ _; have : a3.n ≤ 3 := y4; omega)) ?_
      rintro q0 q1 q2 q3 w12 e12 hF
      have hne : T.uint64 ≠ T.api_Matrix := by decide
      have hms9 := hms.ext e9 fun _ _ h => h
      have hD9 := hD.ext e9
      have mv : ∀ {s : Sl} {x : Nat}, Dn w9 0 s x → Dn w11 0 s x := fun h => Ow.extX h x11 (own_ne h.ow hms9 hne)
      have hD11 : Q4 w11 0 m0 m1 m2 m3 V.1 V.2.1 V.2.2.1 V.2.2.2 := ⟨mv hD9.a, mv hD9.b, mv hD9.c, mv hD9.d⟩
      refine cl0 (r17_Times (hD11.d4.drew.ext e12) hF ((hS.z4).le (by omega)) (hA.s.z4.le (by decide))) ?_
      rintro r12 r13 r14 r15 w13 e13' hT
      intro w14 e14
      have hstep : mprod ((List.range (j + 1)).map (mat ls)) = mmul V (mat ls j) := by
        rw [hV, List.range_succ, List.map_append, mprod, List.foldl_append]
        rfl
      have hsm := (mmul_s4 hS hA.s).le (show 4 * j + 1 + 3 + 1 ≤ 4 * (j + 1) + 1 by omega)
      have e1114 := (Ext.refl none_ w11).drew.trans (e12.trans (e13'.trans e14))
      refine bnd_eq (y := ((j + 1 : Nat) : Int)) (by show wi ((j : Int) + 1) = _; rw [wi_id (by omega) (by omega)]; omega) ⟨5 - (j + 1), by omega, j + 1, ts ++ [(a0, a1, a2, a3)], _, rfl, rfl, by omega, by simp [hts], hms'.ext e1114 fun _ _ h => h, fun q hq => ?_, rfl, ?_, ?_, e11.trans e1114⟩
      · rcases Nat.lt_or_ge q ts.length with h1 | h1
        · rw [List.getElem_append_left h1]; exact hM q h1
        · have : q = j := by simp at hq; omega
          subst this
          rw [hget]; exact hA
      · rw [hstep]; exact (hT.ext e14).less (Nat.zero_le _)
      · rw [hstep]; exact hsm
    · refine ⟨⟨(List.range j).map (mat ls), by simp; omega, ⟨ts, hms.rdv, by simp [hts], fun q hq => ?_⟩, by rw [← hV]; exact hD.d4, by rw [← hV]; exact hS.le (by omega)⟩, e8⟩
      have hqj : q < j := by omega
      have : ((List.range j).map (mat ls)).getD q (0, 0, 0, 0) = mat ls q := by simp [hqj]
      rw [this]
      exact (hM q hq).ext e8
  rintro ms m0 m1 m2 m3 w15 ⟨⟨vs, hvl, hRm, hD, hS⟩, e15⟩
  have hE15 := hE7.ext e15
  refine tM hE15.tz (hgcd_Times hE15 hRm (by omega) (by decide) (by decide)) ?_
  rintro x0 x1 x2 x3 w16 x16 ⟨hO, -, hE16⟩
  generalize mprod vs = V at *
  have hs := (hs.ext e15).extT hE15.tz x16
  have ht := (ht.ext e15).extT hE15.tz x16
  have hD := hD.extT hE15.tz x16
  intro w17 e17 w18 e18
  have e1618 := e17.trans e18
  have hs := hs.ext e1618
  have ht := ht.ext e1618
  have hD := hD.ext e1618
  have hO := hO.ext e1618
  have hE18 := hE16.ext e1618
  refine t2 hE18.tz (hgcd_Apply hE18 hO.n hs.nt ht.nt (hS.le (by decide)) (by omega) (by omega) (by decide) (by decide)) ?_
  rintro s3 s4 w19 x19 ⟨h3, h4, hE19⟩
  have hs := (hs.extT hE18.tz x19).drew
  have ht := (ht.extT hE18.tz x19).drew
  have hD := (hD.extT hE18.tz x19)
  have hO := hO.extT hE18.tz x19
  refine c1 (law21_from hs (by omega)) fun s5 w20 e20 h5 => ?_
  refine c1 (law21_from (ht.ext e20) (by omega)) fun s6 w21 e21 h6 => ?_
  have e1921 : Ext none_ w19 w21 := (Ext.refl _ _).drew.trans (e20.trans e21)
  have hD := hD.ext e1921
  refine c2 (r17_Apply hD (h5.dr.ext e21) h6.dr (hS.z4.le (by decide)) (by omega) (by omega)) ?_
  rintro s7 s8 w22 e22 ⟨h7, h8⟩
  have e1922 := e1921.trans e22
  obtain ⟨y1, y2, y3, y4⟩ := hS
  have zA := dz_of_sz (sz_two_mul y1 (show sz (vl W64 l1) ≤ 4 by omega) y2 (show sz (vl W64 l2) ≤ 4 by omega))
  have zB := dz_of_sz (sz_two_mul y3 (show sz (vl W64 l1) ≤ 4 by omega) y4 (show sz (vl W64 l2) ≤ 4 by omega))
  refine j1 (fun (b : Bool) w' => b = true ∧ Ext none_ w19 w') ?_ ?_
  · refine c1_ (r17_SameM (hD.ext e22) (hO.ext e1922) (Z4.le (S4.z4 (n := 21) ⟨y1, y2, y3, y4⟩) (by decide))) fun w23 e23 => cnd_t rfl ?_
    have e1923 := e1922.trans e23
    refine sm (h7.ext e23) (On.ext h3 e1923) (by omega) rfl fun w24 e24 => cnd_t rfl ?_
    have e1924 := e1923.trans e24
    refine sm ((h8.ext e23).ext e24) (On.ext h4 e1924) (by omega) rfl fun w25 e25 => cnd_t rfl ?_
    have e1925 := e1924.trans e25
    exact wk21 (hE19.ext e1925).gl fun w26 e26 => ⟨rfl, e1925.trans e26⟩
  rintro b w27 ⟨rfl, e27⟩
  exact rt1 (c := .bool) true ((e13.trans e4).own ((((e47.trans e15).any.trans x16).trans (e1618.any.trans x19)).trans e27.any) fun c hc => by subst hc; exact z) rfl
end Go.Proofs.YticehedkalheiaaGreatDoor.Zg
end
