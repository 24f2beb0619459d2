/- A part of the proofs of this seat's laws: words, lemmas or contracts of its functions. -/
import Derived.Test.YtdkhilllajdnpaaGKC
import Derived.Test.YtdkhilllajdnpaaGP
import Derived.Test.YtdkhilllajdnpaaGKE
set_option linter.unusedVariables false
set_option linter.unusedSimpArgs false
set_option linter.unnecessarySimpa false
section
namespace Go.Proofs.Ytdkhilllajdnpaa.Zg
open Go.RowKit

/-- A whole number of the document's own: its digits, and whether it is below 0. -/
def Zr (w : TW) (s : Sl) (neg : Bool) (z : Int) : Prop := Dr w s z.natAbs ∧ neg = decide (z < 0)
theorem Zr.ext {w w' : TW} {s : Sl} {neg : Bool} {z : Int} (h : Zr w s neg z) (e : Ext none_ w w') : Zr w' s neg z := ⟨h.1.ext e, h.2⟩
theorem Zr.here {w : TW} {s : Sl} {neg : Bool} {z : Int} (h : Zr w s neg z) : Zr w.here s neg z := ⟨h.1.here, h.2⟩
theorem Zr.at {w : TW} {k : Nat} {s : Sl} {neg : Bool} {z : Int} (h : Zr w s neg z) : Zr (w.at k) s neg z := ⟨Rd.at_ h.1, h.2⟩
theorem Zr.drew {w : TW} {s : Sl} {neg : Bool} {z : Int} (h : Zr w s neg z) : Zr w.drew s neg z := ⟨⟨h.1.rv, h.1.sm⟩, h.2⟩

theorem ref17_Nat {w : TW} {s : Sl} {x : Nat} (h : Dr w s x) : Ct Pg F.zigguratref17_Nat [s.v] w none_ [.agg [.slice, .bool]] fun (s' : Sl) (neg : Bool) w' => Zr w' s' neg x := by
  refine Ct.zigguratref17_Nat ?_
  unfold Sh.zigguratref17_Nat
  intro w1 e1 w2 e2
  exact ⟨(s, false, ()), rfl, e1.trans e2, Zr.at ⟨((h.here.ext e1).ext e2), by simp⟩⟩
theorem ref17_made {w : TW} {s : Sl} {x : Nat} {neg : Bool} (h : Dr w s x) : Ct Pg F.zigguratref17_made [s.v, .bool neg] w none_ [.agg [.slice, .bool]] fun (s' : Sl) (neg' : Bool) w' => Zr w' s' neg' (if neg then -(x : Int) else x) := by
  refine Ct.zigguratref17_made ?_
  unfold Sh.zigguratref17_made
  intro w1 e1
  refine j2 (fun (s' : Sl) (neg' : Bool) w' => Zr w' s' neg' (if neg then -(x : Int) else x) ∧ Ext none_ w.here w') ?_ ?_
  · cases neg with
    | true =>
      refine cnd_t rfl (c1 (ref_Zero (h.here.ext e1)) ?_)
      rintro r w2 e2 rfl
      intro w3 e3
      refine ⟨⟨?_, ?_⟩, (e1.trans e2).trans e3⟩
      · rw [if_pos rfl, Int.natAbs_neg, Int.natAbs_natCast]
        exact ((h.here.ext e1).ext e2).ext e3
      · rw [if_pos rfl]
        by_cases hx : x = 0
        · simp [hx]
        · simp [hx]; omega
    | false =>
      refine cnd_f rfl fun w2 e2 => ⟨⟨(h.here.ext e1).ext e2, by simp⟩, e1.trans e2⟩
  rintro s' neg' w' ⟨hz, e⟩
  exact ⟨(s', neg', ()), rfl, e, hz.at⟩
theorem ref17_Neg {w : TW} {s : Sl} {neg : Bool} {z : Int} (h : Zr w s neg z) : Ct Pg F.zigguratref17_Neg [.agg #[s.v, .bool neg]] w none_ [.agg [.slice, .bool]] fun (s' : Sl) (neg' : Bool) w' => Zr w' s' neg' (-z) := by
  refine Ct.zigguratref17_Neg ?_
  unfold Sh.zigguratref17_Neg
  intro w1 e1 w2 e2
  refine cl0 (ref17_made (neg := !neg) ((h.1.here.ext e1).ext e2)) ?_
  intro r r1 w3 e3 hr
  have hr : Zr w3 r r1 (if (!neg) then -(z.natAbs : Int) else z.natAbs) := hr
  intro w4 e4
  refine ⟨(r, r1, ()), rfl, ((e1.trans e2).trans e3).trans e4, ?_⟩
  have hz : (if (!neg) then -(z.natAbs : Int) else z.natAbs) = -z := by
    rw [h.2]
    by_cases h0 : z < 0
    · simp [h0]; omega
    · simp [h0]; omega
  rw [hz] at hr
  exact (hr.ext e4).at
theorem ref17_Add {w : TW} {a b : Sl} {na nb : Bool} {x y : Int} (ha : Zr w a na x) (hb : Zr w b nb y) (hx : dz x.natAbs ≤ 274877906944) (hy : dz y.natAbs ≤ 274877906944) : Ct Pg F.zigguratref17_Add [.agg #[a.v, .bool na], .agg #[b.v, .bool nb]] w none_ [.agg [.slice, .bool]] fun (s' : Sl) (neg' : Bool) w' => Zr w' s' neg' (x + y) := by
  refine Ct.zigguratref17_Add ?_
  unfold Sh.zigguratref17_Add
  intro w1 e1 w2 e2 w3 e3
  have e := (e1.trans e2).trans e3
  have ga := ha.1.here.ext e
  have gb := hb.1.here.ext e
  have na' := ha.2
  have nb' := hb.2
  clear e1 e2 e3
  refine cnd_i (fun h => ?_) (fun h => ?_)
  · have hab : na = nb := by simpa using h
    refine c1 (ref_Add (Dr.ext ga (Ext.refl _ _).drew) (Dr.ext gb (Ext.refl _ _).drew) hx hy) fun s w4 e4 h4 => ?_
    refine cl0 (ref17_made (neg := na) h4.dr) ?_
    intro r r1 w5 e5 hr
    have hr : Zr w5 r r1 (if na then -((x.natAbs + y.natAbs : Nat) : Int) else (x.natAbs + y.natAbs : Nat)) := hr
    intro w6 e6
    refine ⟨(r, r1, ()), rfl, ((e.drew.trans e4).trans e5).trans e6, ?_⟩
    have : (if na then -((x.natAbs + y.natAbs : Nat) : Int) else (x.natAbs + y.natAbs : Nat)) = x + y := by
      rw [nb'] at hab
      rw [na'] at hab ⊢
      by_cases h0 : x < 0
      · have : y < 0 := by simpa [h0] using hab
        simp [h0]; omega
      · have : ¬ y < 0 := by simpa [h0] using hab
        simp [h0]; omega
    rw [this] at hr
    exact (hr.ext e6).at
  · have hab : na ≠ nb := by simpa using h
    refine c1 (ref_Cmp ga gb) ?_
    rintro r w4 e4 rfl
    have hd : (decide (cmpN x.natAbs y.natAbs ≥ 0)) = decide (y.natAbs ≤ x.natAbs) := cmp_ge
    have ga := Dr.ext (ga.ext e4) (Ext.refl _ _).drew
    have gb := Dr.ext (gb.ext e4) (Ext.refl _ _).drew
    have e := (e.trans e4).drew
    by_cases hle : y.natAbs ≤ x.natAbs
    · refine cnd_t (by rw [hd]; simpa using hle) ?_
      refine c1 (ref_Sub ga gb hx hle) fun s w5 e5 h5 => ?_
      refine cl0 (ref17_made (neg := na) h5.dr) ?_
      intro r r1 w6 e6 hr
      have hr : Zr w6 r r1 (if na then -((x.natAbs - y.natAbs : Nat) : Int) else (x.natAbs - y.natAbs : Nat)) := hr
      intro w7 e7
      refine ⟨(r, r1, ()), rfl, ((e.trans e5).trans e6).trans e7, ?_⟩
      have : (if na then -((x.natAbs - y.natAbs : Nat) : Int) else (x.natAbs - y.natAbs : Nat)) = x + y := by
        rw [nb'] at hab
        rw [na'] at hab ⊢
        by_cases h0 : x < 0
        · have : ¬ y < 0 := by simpa [h0] using hab
          simp [h0]; omega
        · have : y < 0 := by simpa [h0] using hab
          simp [h0]; omega
      rw [this] at hr
      exact (hr.ext e7).at
    · refine cnd_f (by rw [hd]; simpa using hle) ?_
      refine c1 (ref_Sub gb ga hy (by omega)) fun s w5 e5 h5 => ?_
      refine cl0 (ref17_made (neg := nb) h5.dr) ?_
      intro r r1 w6 e6 hr
      have hr : Zr w6 r r1 (if nb then -((y.natAbs - x.natAbs : Nat) : Int) else (y.natAbs - x.natAbs : Nat)) := hr
      intro w7 e7
      refine ⟨(r, r1, ()), rfl, ((e.trans e5).trans e6).trans e7, ?_⟩
      have : (if nb then -((y.natAbs - x.natAbs : Nat) : Int) else (y.natAbs - x.natAbs : Nat)) = x + y := by
        rw [na'] at hab
        rw [nb'] at hab ⊢
        by_cases h0 : y < 0
        · have : ¬ x < 0 := by simpa [h0] using hab
          simp [h0]; omega
        · have : x < 0 := by simpa [h0] using hab
          simp [h0]; omega
      rw [this] at hr
      exact (hr.ext e7).at
theorem ref17_Sub {w : TW} {a b : Sl} {na nb : Bool} {x y : Int} (ha : Zr w a na x) (hb : Zr w b nb y) (hx : dz x.natAbs ≤ 274877906944) (hy : dz y.natAbs ≤ 274877906944) : Ct Pg F.zigguratref17_Sub [.agg #[a.v, .bool na], .agg #[b.v, .bool nb]] w none_ [.agg [.slice, .bool]] fun (s' : Sl) (neg' : Bool) w' => Zr w' s' neg' (x - y) := by
  refine Ct.zigguratref17_Sub ?_
  unfold Sh.zigguratref17_Sub
  intro w1 e1 w2 e2 w3 e3
  have e := ((e1.trans e2).trans e3).drew
  refine cl0 (ref17_Neg (hb.here.ext e)) ?_
  intro r r1 w4 e4 hr
  have hr : Zr w4 r r1 (-y) := hr
  refine cl0 (ref17_Add ((ha.here.ext e).ext e4) hr hx (by rwa [Int.natAbs_neg])) ?_
  intro q q1 w5 e5 hq
  have hq : Zr w5 q q1 (x + -y) := hq
  intro w6 e6
  exact ⟨(q, q1, ()), rfl, ((e.trans e4).trans e5).trans e6, (hq.ext e6).at⟩
theorem ref17_Mul {w : TW} {a b : Sl} {na nb : Bool} {x y : Int} (ha : Zr w a na x) (hb : Zr w b nb y) (hx : dz x.natAbs ≤ 274877906944) (hy : dz y.natAbs ≤ 274877906944) : Ct Pg F.zigguratref17_Mul [.agg #[a.v, .bool na], .agg #[b.v, .bool nb]] w none_ [.agg [.slice, .bool]] fun (s' : Sl) (neg' : Bool) w' => Zr w' s' neg' (x * y) := by
  refine Ct.zigguratref17_Mul ?_
  unfold Sh.zigguratref17_Mul
  intro w1 e1 w2 e2 w3 e3
  have e := ((e1.trans e2).trans e3).drew
  refine c1 (ref_Mul (ha.1.here.ext e) (hb.1.here.ext e) hx hy) fun s w4 e4 h4 => ?_
  refine cl0 (ref17_made (neg := !(na == nb)) h4.dr) ?_
  intro r r1 w5 e5 hr
  have hr : Zr w5 r r1 (if (!(na == nb)) then -((x.natAbs * y.natAbs : Nat) : Int) else (x.natAbs * y.natAbs : Nat)) := hr
  intro w6 e6
  refine ⟨(r, r1, ()), rfl, ((e.trans e4).trans e5).trans e6, ?_⟩
  have : (if (!(na == nb)) then -((x.natAbs * y.natAbs : Nat) : Int) else (x.natAbs * y.natAbs : Nat)) = x * y := by
    rw [ha.2, hb.2, ← Int.natAbs_mul]
    by_cases h0 : x < 0
    · by_cases h1 : y < 0
      · have := Int.mul_pos_of_neg_of_neg h0 h1
        simp [h0, h1]; omega
      · have := Int.mul_nonpos_of_nonpos_of_nonneg (Int.le_of_lt h0) (Int.not_lt.1 h1)
        simp [h0, h1]; omega
    · by_cases h1 : y < 0
      · have := Int.mul_nonpos_of_nonneg_of_nonpos (Int.not_lt.1 h0) (Int.le_of_lt h1)
        simp [h0, h1]; omega
      · have := Int.mul_nonneg (Int.not_lt.1 h0) (Int.not_lt.1 h1)
        simp [h0, h1]; omega
  rw [this] at hr
  exact (hr.ext e6).at
theorem ref17_Small {w : TW} {n : Int} (h1 : -9223372036854775808 < n) (h2 : n ≤ 9223372036854775807) : Ct Pg F.zigguratref17_Small [.int .i64 n] w none_ [.agg [.slice, .bool]] fun (s' : Sl) (neg' : Bool) w' => Zr w' s' neg' n := by
  refine Ct.zigguratref17_Small ?_
  unfold Sh.zigguratref17_Small
  intro w1 e1
  refine cnd_d (fun h => ?_) (fun h => ?_)
  · refine bnd_wi (by omega) (by omega) (bnd_wu' (y := n.natAbs) (by omega) (by rw [w64]; omega) ?_)
    refine c1 (ref_Small (y := n.natAbs) (by rw [w64]; omega)) fun s w2 e2 g2 => ?_
    refine cl0 (ref17_made (neg := true) g2.dr) ?_
    intro r r1 w3 e3 hr
    have hr : Zr w3 r r1 (if true then -(n.natAbs : Int) else n.natAbs) := hr
    intro w4 e4
    refine ⟨(r, r1, ()), rfl, ((e1.trans e2).trans e3).trans e4, ?_⟩
    rw [if_pos rfl, show -(n.natAbs : Int) = n by omega] at hr
    exact (hr.ext e4).at
  · refine bnd_wu' (y := n.natAbs) (by omega) (by rw [w64]; omega) ?_
    refine c1 (ref_Small (y := n.natAbs) (by rw [w64]; omega)) fun s w2 e2 g2 => ?_
    refine cl0 (ref17_made (neg := false) g2.dr) ?_
    intro r r1 w3 e3 hr
    have hr : Zr w3 r r1 (if false then -(n.natAbs : Int) else n.natAbs) := hr
    intro w4 e4
    refine ⟨(r, r1, ()), rfl, ((e1.trans e2).trans e3).trans e4, ?_⟩
    rw [if_neg (by decide), show (n.natAbs : Int) = n by omega] at hr
    exact (hr.ext e4).at
theorem ref17_To {w : TW} {a : Sl} {na : Bool} {z : Int} (ha : Zr w a na z) (hx : dz z.natAbs ≤ 274877906944) : Ct Pg F.zigguratref17_To [.agg #[a.v, .bool na]] w none_ [.agg [.slice, .bool]] fun (s' : Sl) (neg' : Bool) w' => On w' w.w.heap.size s' z.natAbs ∧ neg' = decide (z < 0) := by
  refine Ct.zigguratref17_To ?_
  unfold Sh.zigguratref17_To
  intro w1 e1 w2 e2
  have e := (e1.trans e2).drew
  refine c1 (ref_To (ha.1.here.ext e) hx) fun s w3 e3 h3 => ?_
  intro w4 e4
  exact ⟨(s, na, ()), rfl, (e.trans e3).trans e4, On.at (On.less (On.ext h3 e4) e.size), ha.2⟩
theorem keep_Int {w : TW} {a b : Sl} {na nb : Bool} {A B : Nat} {x y : Nat} (ha : On w A a x) (hb : On w B b y) (hxy : x = y) (hn : na = nb) : Ct Pg F.zigguratkeep_Int [.agg #[a.v, .bool na], .agg #[b.v, .bool nb]] w none_ [.one .bool] fun (r : Bool) _ => r = true := by
  subst hxy hn
  refine Ct.zigguratkeep_Int ?_
  unfold Sh.zigguratkeep_Int
  intro w1 e1 w2 e2
  have e := e1.trans e2
  have ga := (Ow.rd ha).here.ext e
  have gb := (Ow.rd hb).here.ext e
  refine j1 (fun (r : Bool) w' => r = true ∧ Ext none_ w.here w') ?_ ?_
  · refine cnd_t (by simp) (c1 (keep_Same ga gb) ?_)
    rintro r w3 e3 rfl
    exact ⟨rfl, e.trans e3⟩
  rintro r w' ⟨rfl, f⟩
  exact rt1 (c := .bool) _ f rfl
end Go.Proofs.Ytdkhilllajdnpaa.Zg
end

section
namespace Go.Proofs.Ytdkhilllajdnpaa.Zg
open Go.RowKit

theorem nn {z : Int} (h : 0 ≤ z) : false = decide (z < 0) := (decide_eq_false (Int.not_lt.2 h)).symm
theorem w64_pow (n : Nat) : 2 ^ (64 * n) = W64 ^ n := by rw [Nat.pow_mul]

set_option maxHeartbeats 1600000 in
theorem law11_ToomPoints {w : TW} {a : Sl} {k : Int} (ha : Arg w a) (_ : -9223372036854775808 ≤ k ∧ k ≤ 9223372036854775807) : Ct Pg F.zigguratlaw11_ToomPoints [a.v, .int .i64 k] w none_ [.one .bool] fun (r : Bool) _ => r = true := by
  obtain ⟨la, ha⟩ := ha
  refine Ct.zigguratlaw11_ToomPoints ?_
  unfold Sh.zigguratlaw11_ToomPoints
  refine cutc (n := 30) ha.here rfl fun s w1 e1 hs _ => ?_
  have hx := sz_vl hs.sm
  have hla : (la.take 30).length ≤ 30 := by simp; omega
  generalize la.take 30 = l at *
  refine c1 (keep_Lend hs (by omega)) fun s1 w2 e2 L => ?_
  obtain ⟨n, hn⟩ : ∃ n, n = max 1 (min k.toNat 16384) := ⟨_, rfl⟩
  obtain ⟨A, hA⟩ : ∃ A, vl W64 l = A := ⟨_, rfl⟩
  have NA := L.nt
  rw [hA] at NA hx
  refine cl0 (toom_Points NA (by omega) hn) ?_
  intro r r1 r2 r3 r4 r5 r6 r7 r8 r9 w3 e3 hp
  obtain ⟨P0, rfl, P1, rfl, PM, rM, P2, rfl, PI, rfl⟩ := hp
  intro w4 e4 w5 e5 w6 e6 w7 e7 w8 e8 w9 e9 w10 e10 w11 e11 w12 e12 w13 e13
  have eA := ((((((((e4.trans e5).trans e6).trans e7).trans e8).trans e9).trans e10).trans e11).trans e12).trans e13
  clear e4 e5 e6 e7 e8 e9 e10 e11 e12 e13
  refine bnd_i (bnd_eq (y := (n : Int)) (by split <;> split <;> omega) (bnd_eq (y := ((64 * n : Nat) : Int)) ((wi_id (by omega) (by omega)).trans (by omega)) ?_))
  have hsz : sz (16 * A + 16) ≤ 33 := by
    have h1 := sz_add (16 * A) 16
    have h2 := sz_mul 16 A
    have h3 := sz_word (x := 16) (by decide)
    omega
  have dzb : ∀ {x : Nat}, x ≤ 16 * A + 16 → dz x ≤ 274877906944 := fun h => by have := dz_mono h; have := dz_of_sz hsz; omega
  have dzc : ∀ {x : Nat}, x ≤ 16 * A + 16 → dz x ≤ 134217728 := fun h => by have := dz_mono h; have := dz_of_sz hsz; omega
  obtain ⟨k0, k1, k2⟩ := T_le A n
  have hs := hs.ext ((e2.trans e3).trans eA)
  refine c1 (law11_from hs (by omega)) fun s2 w14 e14 g14 => ?_
  rw [hA] at g14
  refine c1 (ref_Low (n := 64 * n) g14.dr (dzb (by omega)) (by omega)) fun s3 w15 e15 g15 => ?_
  rw [w64_pow] at g15
  refine cl0 (ref17_Nat g15.dr) ?_
  intro r10 r11 w16 e16 zA0
  have zA0 : Zr w16 r10 r11 (T0 A n : Nat) := zA0
  intro w17 e17 w18 e18
  have eB := ((e14.trans e15).trans e16).trans (e17.trans e18)
  have zA0 := zA0.ext (e17.trans e18)
  clear e14 e15 e16 e17 e18 g14 g15
  have hs := hs.ext eB
  refine c1 (law11_from hs (by omega)) fun s4 w19 e19 g19 => ?_
  rw [hA] at g19
  refine c1 (ref_Shr (n := 64 * n) g19.dr (dzb (by omega)) (by omega)) fun s5 w20 e20 g20 => ?_
  rw [w64_pow] at g20
  refine c1 (ref_Low (n := 64 * n) g20.dr (dzb (Nat.le_trans (Nat.div_le_self _ _) (by omega))) (by omega)) fun s6 w21 e21 g21 => ?_
  rw [w64_pow] at g21
  refine cl0 (ref17_Nat g21.dr) ?_
  intro r12 r13 w22 e22 zA1
  have zA1 : Zr w22 r12 r13 (T1 A n : Nat) := zA1
  intro w23 e23 w24 e24
  have eC := (((e19.trans e20).trans e21).trans e22).trans (e23.trans e24)
  have zA1 := zA1.ext (e23.trans e24)
  clear e19 e20 e21 e22 e23 e24 g19 g20 g21
  have hs := hs.ext eC
  refine c1 (law11_from hs (by omega)) fun s7 w25 e25 g25 => ?_
  rw [hA] at g25
  refine bnd_eq (y := ((64 * (2 * n) : Nat) : Int)) ((wi_id (by omega) (by omega)).trans (by omega)) ?_
  refine c1 (ref_Shr (n := 64 * (2 * n)) g25.dr (dzb (by omega)) (by omega)) fun s8 w26 e26 g26 => ?_
  rw [w64_pow] at g26
  refine cl0 (ref17_Nat g26.dr) ?_
  intro r14 r15 w27 e27 zA2
  have zA2 : Zr w27 r14 r15 (T2 A n : Nat) := zA2
  intro w28 e28 w29 e29
  have eD := ((e25.trans e26).trans e27).trans (e28.trans e29)
  have zA2 := zA2.ext (e28.trans e29)
  clear e25 e26 e27 e28 e29 g25 g26
  have hs := hs.ext eD
  have zA1 := zA1.ext eD
  have zA0 := zA0.ext (eC.trans eD)
  have eE := ((eA.trans eB).trans eC).trans eD
  have P0 := On.ext P0 eE
  have P1 := On.ext P1 eE
  have PM := On.ext PM eE
  have P2 := On.ext P2 eE
  have PI := On.ext PI eE
  have L := L.ext (e3.trans eE)
  have fb := (e1.trans e2).trans (e3.trans eE)
  clear eA eB eC eD eE e1 e2 e3 NA
  have mm1 : T1 A n ≤ A := k1
  generalize T0 A n = A0 at *
  generalize T1 A n = A1 at *
  generalize T2 A n = A2 at *
  refine cl0 (ref17_Add zA0 zA2 (dzb (by omega)) (dzb (by omega))) ?_
  intro r16 r17 w30 e30 zS
  have zS : Zr w30 r16 r17 ((A0 : Int) + A2) := zS
  intro w31 e31 w32 e32
  refine cl0 (ref17_Small (n := 2) (by decide) (by decide)) ?_
  intro r18 r19 w33 e33 zT
  have zT : Zr w33 r18 r19 2 := zT
  intro w34 e34 w35 e35
  have f1 := ((e30.trans e31).trans e32).trans (e33.trans (e34.trans e35))
  have zS := zS.ext ((e31.trans e32).trans (e33.trans (e34.trans e35)))
  have zT := zT.ext (e34.trans e35)
  have zA0 := zA0.ext f1
  have zA1 := zA1.ext f1
  have zA2 := zA2.ext f1
  have P0 := On.ext P0 f1
  have P1 := On.ext P1 f1
  have PM := On.ext PM f1
  have P2 := On.ext P2 f1
  have PI := On.ext PI f1
  have L := L.ext f1
  have hs := hs.ext f1
  have fb := fb.trans f1
  clear e30 e31 e32 e33 e34 e35 f1
  have E : Ext none_ w35 w35.drew := (Ext.refl _ _).drew
  refine ⟨?_, ?_⟩
  · skip
    refine cl0 (ref17_Mul (zT.ext E) (zA2.ext E) (dzb (by omega)) (dzb (by omega))) ?_
    intro q1 u1 v101 f101 hq
    have z1 : Zr v101 q1 u1 ((2 : Int) * (A2 : Int)) := hq
    have E := E.trans f101
    refine ⟨?_, ?_⟩
    · skip
      refine cl0 (ref17_Add (zA1.ext E) z1 (dzb (by omega)) (dzb (by omega))) ?_
      intro q2 u2 v102 f102 hq
      have z2 : Zr v102 q2 u2 ((A1 : Int) + 2 * (A2 : Int)) := hq
      have E := E.trans f102
      refine ⟨?_, ?_⟩
      · skip
        refine cl0 (ref17_Mul (zT.ext E) z2 (dzb (by omega)) (dzb (by omega))) ?_
        intro q3 u3 v103 f103 hq
        have z3 : Zr v103 q3 u3 ((2 : Int) * ((A1 : Int) + 2 * (A2 : Int))) := hq
        have E := E.trans f103
        refine ⟨?_, ?_⟩
        · skip
          refine cl0 (ref17_Add (zA0.ext E) z3 (dzb (by omega)) (dzb (by omega))) ?_
          intro q4 u4 v104 f104 hq
          have z4 : Zr v104 q4 u4 ((A0 : Int) + 2 * ((A1 : Int) + 2 * (A2 : Int))) := hq
          have E := E.trans f104
          intro v105 f105
          have E := E.trans f105
          have z4 := z4.ext f105
          intro v106 f106
          have E := E.trans f106
          have z4 := z4.ext f106
          have z4 := z4.drew
          have E := E.drew
          refine j1 (fun (r : Bool) w' => r = true ∧ Ext none_ w.here w') ?_ ?_
          · refine cl0 (ref17_To (zA0.ext E) (dzb (by omega))) ?_
            intro o u v107 f107 hq
            obtain ⟨hq, hu⟩ := hq
            have E := E.trans f107
            have z4 := z4.ext f107
            refine c1 (keep_Int (On.ext P0 E) hq (by omega) (by rw [hu]; exact nn (by omega))) ?_
            rintro r v108 f108 rfl
            have E := E.trans f108
            have z4 := z4.ext f108
            refine cnd_t rfl ?_
            refine cl0 (ref17_Add (zS.ext E) (zA1.ext E) (dzb (by omega)) (dzb (by omega))) ?_
            intro o u v109 f109 hq
            have zx : Zr v109 o u ((A0 : Int) + A2 + A1) := hq
            have E := E.trans f109
            have z4 := z4.ext f109
            refine cl0 (ref17_To zx (dzb (by omega))) ?_
            intro o u v110 f110 hq
            obtain ⟨hq, hu⟩ := hq
            have E := E.trans f110
            have z4 := z4.ext f110
            refine c1 (keep_Int (On.ext P1 E) hq (by omega) (by rw [hu]; exact nn (by omega))) ?_
            rintro r v111 f111 rfl
            have E := E.trans f111
            have z4 := z4.ext f111
            refine cnd_t rfl ?_
            refine cl0 (ref17_Sub (zS.ext E) (zA1.ext E) (dzb (by omega)) (dzb (by omega))) ?_
            intro o u v112 f112 hq
            have zx : Zr v112 o u ((A0 : Int) + A2 - A1) := hq
            have E := E.trans f112
            have z4 := z4.ext f112
            refine cl0 (ref17_To zx (dzb (by omega))) ?_
            intro o u v113 f113 hq
            obtain ⟨hq, hu⟩ := hq
            have E := E.trans f113
            have z4 := z4.ext f113
            refine c1 (keep_Int (On.ext PM E) hq (by split <;> omega) (by rw [rM, hu, decide_eq_decide]; omega)) ?_
            rintro r v114 f114 rfl
            have E := E.trans f114
            have z4 := z4.ext f114
            refine cnd_t rfl ?_
            refine cl0 (ref17_To z4 (dzb (by omega))) ?_
            intro o u v115 f115 hq
            obtain ⟨hq, hu⟩ := hq
            have E := E.trans f115
            have z4 := z4.ext f115
            refine c1 (keep_Int (On.ext P2 E) hq (by omega) (by rw [hu]; exact nn (by omega))) ?_
            rintro r v116 f116 rfl
            have E := E.trans f116
            have z4 := z4.ext f116
            refine cnd_t rfl ?_
            refine cl0 (ref17_To (zA2.ext E) (dzb (by omega))) ?_
            intro o u v117 f117 hq
            obtain ⟨hq, hu⟩ := hq
            have E := E.trans f117
            have z4 := z4.ext f117
            refine c1 (keep_Int (On.ext PI E) hq (by omega) (by rw [hu]; exact nn (by omega))) ?_
            rintro r v118 f118 rfl
            have E := E.trans f118
            have z4 := z4.ext f118
            refine cnd_t rfl ?_
            exact tact L hs E (by omega) fun v1 g1 => cnd_t rfl (wk11 fun v2 g2 => ⟨rfl, (fb.trans g1).trans g2⟩)
          rintro r w' ⟨rfl, f⟩
          exact rt1 (c := .bool) _ f rfl
        · skip
          intro v119 f119
          have E := E.trans f119
          have z3 := z3.ext f119
          refine cl0 (ref17_Add (zA0.ext E) z3 (dzb (by omega)) (dzb (by omega))) ?_
          intro q4 u4 v120 f120 hq
          have z4 : Zr v120 q4 u4 ((A0 : Int) + 2 * ((A1 : Int) + 2 * (A2 : Int))) := hq
          have E := E.trans f120
          intro v121 f121
          have E := E.trans f121
          have z4 := z4.ext f121
          have z4 := z4.drew
          have E := E.drew
          refine j1 (fun (r : Bool) w' => r = true ∧ Ext none_ w.here w') ?_ ?_
          · refine cl0 (ref17_To (zA0.ext E) (dzb (by omega))) ?_
            intro o u v122 f122 hq
            obtain ⟨hq, hu⟩ := hq
            have E := E.trans f122
            have z4 := z4.ext f122
            refine c1 (keep_Int (On.ext P0 E) hq (by omega) (by rw [hu]; exact nn (by omega))) ?_
            rintro r v123 f123 rfl
            have E := E.trans f123
            have z4 := z4.ext f123
            refine cnd_t rfl ?_
            refine cl0 (ref17_Add (zS.ext E) (zA1.ext E) (dzb (by omega)) (dzb (by omega))) ?_
            intro o u v124 f124 hq
            have zx : Zr v124 o u ((A0 : Int) + A2 + A1) := hq
            have E := E.trans f124
            have z4 := z4.ext f124
            refine cl0 (ref17_To zx (dzb (by omega))) ?_
            intro o u v125 f125 hq
            obtain ⟨hq, hu⟩ := hq
            have E := E.trans f125
            have z4 := z4.ext f125
            refine c1 (keep_Int (On.ext P1 E) hq (by omega) (by rw [hu]; exact nn (by omega))) ?_
            rintro r v126 f126 rfl
            have E := E.trans f126
            have z4 := z4.ext f126
            refine cnd_t rfl ?_
            refine cl0 (ref17_Sub (zS.ext E) (zA1.ext E) (dzb (by omega)) (dzb (by omega))) ?_
            intro o u v127 f127 hq
            have zx : Zr v127 o u ((A0 : Int) + A2 - A1) := hq
            have E := E.trans f127
            have z4 := z4.ext f127
            refine cl0 (ref17_To zx (dzb (by omega))) ?_
            intro o u v128 f128 hq
            obtain ⟨hq, hu⟩ := hq
            have E := E.trans f128
            have z4 := z4.ext f128
            refine c1 (keep_Int (On.ext PM E) hq (by split <;> omega) (by rw [rM, hu, decide_eq_decide]; omega)) ?_
            rintro r v129 f129 rfl
            have E := E.trans f129
            have z4 := z4.ext f129
            refine cnd_t rfl ?_
            refine cl0 (ref17_To z4 (dzb (by omega))) ?_
            intro o u v130 f130 hq
            obtain ⟨hq, hu⟩ := hq
            have E := E.trans f130
            have z4 := z4.ext f130
            refine c1 (keep_Int (On.ext P2 E) hq (by omega) (by rw [hu]; exact nn (by omega))) ?_
            rintro r v131 f131 rfl
            have E := E.trans f131
            have z4 := z4.ext f131
            refine cnd_t rfl ?_
            refine cl0 (ref17_To (zA2.ext E) (dzb (by omega))) ?_
            intro o u v132 f132 hq
            obtain ⟨hq, hu⟩ := hq
            have E := E.trans f132
            have z4 := z4.ext f132
            refine c1 (keep_Int (On.ext PI E) hq (by omega) (by rw [hu]; exact nn (by omega))) ?_
            rintro r v133 f133 rfl
            have E := E.trans f133
            have z4 := z4.ext f133
            refine cnd_t rfl ?_
            exact tact L hs E (by omega) fun v1 g1 => cnd_t rfl (wk11 fun v2 g2 => ⟨rfl, (fb.trans g1).trans g2⟩)
          rintro r w' ⟨rfl, f⟩
          exact rt1 (c := .bool) _ f rfl
      · skip
        intro v134 f134
        have E := E.trans f134
        have z2 := z2.ext f134
        refine cl0 (ref17_Mul (zT.ext E) z2 (dzb (by omega)) (dzb (by omega))) ?_
        intro q3 u3 v135 f135 hq
        have z3 : Zr v135 q3 u3 ((2 : Int) * ((A1 : Int) + 2 * (A2 : Int))) := hq
        have E := E.trans f135
        refine cl0 (ref17_Add (zA0.ext E) z3 (dzb (by omega)) (dzb (by omega))) ?_
        intro q4 u4 v136 f136 hq
        have z4 : Zr v136 q4 u4 ((A0 : Int) + 2 * ((A1 : Int) + 2 * (A2 : Int))) := hq
        have E := E.trans f136
        intro v137 f137
        have E := E.trans f137
        have z4 := z4.ext f137
        have z4 := z4.drew
        have E := E.drew
        refine j1 (fun (r : Bool) w' => r = true ∧ Ext none_ w.here w') ?_ ?_
        · refine cl0 (ref17_To (zA0.ext E) (dzb (by omega))) ?_
          intro o u v138 f138 hq
          obtain ⟨hq, hu⟩ := hq
          have E := E.trans f138
          have z4 := z4.ext f138
          refine c1 (keep_Int (On.ext P0 E) hq (by omega) (by rw [hu]; exact nn (by omega))) ?_
          rintro r v139 f139 rfl
          have E := E.trans f139
          have z4 := z4.ext f139
          refine cnd_t rfl ?_
          refine cl0 (ref17_Add (zS.ext E) (zA1.ext E) (dzb (by omega)) (dzb (by omega))) ?_
          intro o u v140 f140 hq
          have zx : Zr v140 o u ((A0 : Int) + A2 + A1) := hq
          have E := E.trans f140
          have z4 := z4.ext f140
          refine cl0 (ref17_To zx (dzb (by omega))) ?_
          intro o u v141 f141 hq
          obtain ⟨hq, hu⟩ := hq
          have E := E.trans f141
          have z4 := z4.ext f141
          refine c1 (keep_Int (On.ext P1 E) hq (by omega) (by rw [hu]; exact nn (by omega))) ?_
          rintro r v142 f142 rfl
          have E := E.trans f142
          have z4 := z4.ext f142
          refine cnd_t rfl ?_
          refine cl0 (ref17_Sub (zS.ext E) (zA1.ext E) (dzb (by omega)) (dzb (by omega))) ?_
          intro o u v143 f143 hq
          have zx : Zr v143 o u ((A0 : Int) + A2 - A1) := hq
          have E := E.trans f143
          have z4 := z4.ext f143
          refine cl0 (ref17_To zx (dzb (by omega))) ?_
          intro o u v144 f144 hq
          obtain ⟨hq, hu⟩ := hq
          have E := E.trans f144
          have z4 := z4.ext f144
          refine c1 (keep_Int (On.ext PM E) hq (by split <;> omega) (by rw [rM, hu, decide_eq_decide]; omega)) ?_
          rintro r v145 f145 rfl
          have E := E.trans f145
          have z4 := z4.ext f145
          refine cnd_t rfl ?_
          refine cl0 (ref17_To z4 (dzb (by omega))) ?_
          intro o u v146 f146 hq
          obtain ⟨hq, hu⟩ := hq
          have E := E.trans f146
          have z4 := z4.ext f146
          refine c1 (keep_Int (On.ext P2 E) hq (by omega) (by rw [hu]; exact nn (by omega))) ?_
          rintro r v147 f147 rfl
          have E := E.trans f147
          have z4 := z4.ext f147
          refine cnd_t rfl ?_
          refine cl0 (ref17_To (zA2.ext E) (dzb (by omega))) ?_
          intro o u v148 f148 hq
          obtain ⟨hq, hu⟩ := hq
          have E := E.trans f148
          have z4 := z4.ext f148
          refine c1 (keep_Int (On.ext PI E) hq (by omega) (by rw [hu]; exact nn (by omega))) ?_
          rintro r v149 f149 rfl
          have E := E.trans f149
          have z4 := z4.ext f149
          refine cnd_t rfl ?_
          exact tact L hs E (by omega) fun v1 g1 => cnd_t rfl (wk11 fun v2 g2 => ⟨rfl, (fb.trans g1).trans g2⟩)
        rintro r w' ⟨rfl, f⟩
        exact rt1 (c := .bool) _ f rfl
    · skip
      intro v150 f150
      have E := E.trans f150
      have z1 := z1.ext f150
      refine cl0 (ref17_Add (zA1.ext E) z1 (dzb (by omega)) (dzb (by omega))) ?_
      intro q2 u2 v151 f151 hq
      have z2 : Zr v151 q2 u2 ((A1 : Int) + 2 * (A2 : Int)) := hq
      have E := E.trans f151
      refine cl0 (ref17_Mul (zT.ext E) z2 (dzb (by omega)) (dzb (by omega))) ?_
      intro q3 u3 v152 f152 hq
      have z3 : Zr v152 q3 u3 ((2 : Int) * ((A1 : Int) + 2 * (A2 : Int))) := hq
      have E := E.trans f152
      refine cl0 (ref17_Add (zA0.ext E) z3 (dzb (by omega)) (dzb (by omega))) ?_
      intro q4 u4 v153 f153 hq
      have z4 : Zr v153 q4 u4 ((A0 : Int) + 2 * ((A1 : Int) + 2 * (A2 : Int))) := hq
      have E := E.trans f153
      intro v154 f154
      have E := E.trans f154
      have z4 := z4.ext f154
      have z4 := z4.drew
      have E := E.drew
      refine j1 (fun (r : Bool) w' => r = true ∧ Ext none_ w.here w') ?_ ?_
      · refine cl0 (ref17_To (zA0.ext E) (dzb (by omega))) ?_
        intro o u v155 f155 hq
        obtain ⟨hq, hu⟩ := hq
        have E := E.trans f155
        have z4 := z4.ext f155
        refine c1 (keep_Int (On.ext P0 E) hq (by omega) (by rw [hu]; exact nn (by omega))) ?_
        rintro r v156 f156 rfl
        have E := E.trans f156
        have z4 := z4.ext f156
        refine cnd_t rfl ?_
        refine cl0 (ref17_Add (zS.ext E) (zA1.ext E) (dzb (by omega)) (dzb (by omega))) ?_
        intro o u v157 f157 hq
        have zx : Zr v157 o u ((A0 : Int) + A2 + A1) := hq
        have E := E.trans f157
        have z4 := z4.ext f157
        refine cl0 (ref17_To zx (dzb (by omega))) ?_
        intro o u v158 f158 hq
        obtain ⟨hq, hu⟩ := hq
        have E := E.trans f158
        have z4 := z4.ext f158
        refine c1 (keep_Int (On.ext P1 E) hq (by omega) (by rw [hu]; exact nn (by omega))) ?_
        rintro r v159 f159 rfl
        have E := E.trans f159
        have z4 := z4.ext f159
        refine cnd_t rfl ?_
        refine cl0 (ref17_Sub (zS.ext E) (zA1.ext E) (dzb (by omega)) (dzb (by omega))) ?_
        intro o u v160 f160 hq
        have zx : Zr v160 o u ((A0 : Int) + A2 - A1) := hq
        have E := E.trans f160
        have z4 := z4.ext f160
        refine cl0 (ref17_To zx (dzb (by omega))) ?_
        intro o u v161 f161 hq
        obtain ⟨hq, hu⟩ := hq
        have E := E.trans f161
        have z4 := z4.ext f161
        refine c1 (keep_Int (On.ext PM E) hq (by split <;> omega) (by rw [rM, hu, decide_eq_decide]; omega)) ?_
        rintro r v162 f162 rfl
        have E := E.trans f162
        have z4 := z4.ext f162
        refine cnd_t rfl ?_
        refine cl0 (ref17_To z4 (dzb (by omega))) ?_
        intro o u v163 f163 hq
        obtain ⟨hq, hu⟩ := hq
        have E := E.trans f163
        have z4 := z4.ext f163
        refine c1 (keep_Int (On.ext P2 E) hq (by omega) (by rw [hu]; exact nn (by omega))) ?_
        rintro r v164 f164 rfl
        have E := E.trans f164
        have z4 := z4.ext f164
        refine cnd_t rfl ?_
        refine cl0 (ref17_To (zA2.ext E) (dzb (by omega))) ?_
        intro o u v165 f165 hq
        obtain ⟨hq, hu⟩ := hq
        have E := E.trans f165
        have z4 := z4.ext f165
        refine c1 (keep_Int (On.ext PI E) hq (by omega) (by rw [hu]; exact nn (by omega))) ?_
        rintro r v166 f166 rfl
        have E := E.trans f166
        have z4 := z4.ext f166
        refine cnd_t rfl ?_
        exact tact L hs E (by omega) fun v1 g1 => cnd_t rfl (wk11 fun v2 g2 => ⟨rfl, (fb.trans g1).trans g2⟩)
      rintro r w' ⟨rfl, f⟩
      exact rt1 (c := .bool) _ f rfl
  · skip
    intro v167 f167
    have E := E.trans f167
    refine cl0 (ref17_Mul (zT.ext E) (zA2.ext E) (dzb (by omega)) (dzb (by omega))) ?_
    intro q1 u1 v168 f168 hq
    have z1 : Zr v168 q1 u1 ((2 : Int) * (A2 : Int)) := hq
    have E := E.trans f168
    refine cl0 (ref17_Add (zA1.ext E) z1 (dzb (by omega)) (dzb (by omega))) ?_
    intro q2 u2 v169 f169 hq
    have z2 : Zr v169 q2 u2 ((A1 : Int) + 2 * (A2 : Int)) := hq
    have E := E.trans f169
    refine cl0 (ref17_Mul (zT.ext E) z2 (dzb (by omega)) (dzb (by omega))) ?_
    intro q3 u3 v170 f170 hq
    have z3 : Zr v170 q3 u3 ((2 : Int) * ((A1 : Int) + 2 * (A2 : Int))) := hq
    have E := E.trans f170
    refine cl0 (ref17_Add (zA0.ext E) z3 (dzb (by omega)) (dzb (by omega))) ?_
    intro q4 u4 v171 f171 hq
    have z4 : Zr v171 q4 u4 ((A0 : Int) + 2 * ((A1 : Int) + 2 * (A2 : Int))) := hq
    have E := E.trans f171
    intro v172 f172
    have E := E.trans f172
    have z4 := z4.ext f172
    have z4 := z4.drew
    have E := E.drew
    refine j1 (fun (r : Bool) w' => r = true ∧ Ext none_ w.here w') ?_ ?_
    · refine cl0 (ref17_To (zA0.ext E) (dzb (by omega))) ?_
      intro o u v173 f173 hq
      obtain ⟨hq, hu⟩ := hq
      have E := E.trans f173
      have z4 := z4.ext f173
      refine c1 (keep_Int (On.ext P0 E) hq (by omega) (by rw [hu]; exact nn (by omega))) ?_
      rintro r v174 f174 rfl
      have E := E.trans f174
      have z4 := z4.ext f174
      refine cnd_t rfl ?_
      refine cl0 (ref17_Add (zS.ext E) (zA1.ext E) (dzb (by omega)) (dzb (by omega))) ?_
      intro o u v175 f175 hq
      have zx : Zr v175 o u ((A0 : Int) + A2 + A1) := hq
      have E := E.trans f175
      have z4 := z4.ext f175
      refine cl0 (ref17_To zx (dzb (by omega))) ?_
      intro o u v176 f176 hq
      obtain ⟨hq, hu⟩ := hq
      have E := E.trans f176
      have z4 := z4.ext f176
      refine c1 (keep_Int (On.ext P1 E) hq (by omega) (by rw [hu]; exact nn (by omega))) ?_
      rintro r v177 f177 rfl
      have E := E.trans f177
      have z4 := z4.ext f177
      refine cnd_t rfl ?_
      refine cl0 (ref17_Sub (zS.ext E) (zA1.ext E) (dzb (by omega)) (dzb (by omega))) ?_
      intro o u v178 f178 hq
      have zx : Zr v178 o u ((A0 : Int) + A2 - A1) := hq
      have E := E.trans f178
      have z4 := z4.ext f178
      refine cl0 (ref17_To zx (dzb (by omega))) ?_
      intro o u v179 f179 hq
      obtain ⟨hq, hu⟩ := hq
      have E := E.trans f179
      have z4 := z4.ext f179
      refine c1 (keep_Int (On.ext PM E) hq (by split <;> omega) (by rw [rM, hu, decide_eq_decide]; omega)) ?_
      rintro r v180 f180 rfl
      have E := E.trans f180
      have z4 := z4.ext f180
      refine cnd_t rfl ?_
      refine cl0 (ref17_To z4 (dzb (by omega))) ?_
      intro o u v181 f181 hq
      obtain ⟨hq, hu⟩ := hq
      have E := E.trans f181
      have z4 := z4.ext f181
      refine c1 (keep_Int (On.ext P2 E) hq (by omega) (by rw [hu]; exact nn (by omega))) ?_
      rintro r v182 f182 rfl
      have E := E.trans f182
      have z4 := z4.ext f182
      refine cnd_t rfl ?_
      refine cl0 (ref17_To (zA2.ext E) (dzb (by omega))) ?_
      intro o u v183 f183 hq
      obtain ⟨hq, hu⟩ := hq
      have E := E.trans f183
      have z4 := z4.ext f183
      refine c1 (keep_Int (On.ext PI E) hq (by omega) (by rw [hu]; exact nn (by omega))) ?_
      rintro r v184 f184 rfl
      have E := E.trans f184
      have z4 := z4.ext f184
      refine cnd_t rfl ?_
      exact tact L hs E (by omega) fun v1 g1 => cnd_t rfl (wk11 fun v2 g2 => ⟨rfl, (fb.trans g1).trans g2⟩)
    rintro r w' ⟨rfl, f⟩
    exact rt1 (c := .bool) _ f rfl
end Go.Proofs.Ytdkhilllajdnpaa.Zg
end
