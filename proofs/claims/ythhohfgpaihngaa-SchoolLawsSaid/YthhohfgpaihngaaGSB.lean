/- A part of the proofs of this seat's laws: words, lemmas or contracts of its functions. -/
import Derived.Test.YthhohfgpaihngaaGS
set_option linter.unusedVariables false
set_option linter.unusedSimpArgs false
set_option linter.unnecessarySimpa false
section
namespace Go.Proofs.Ythhohfgpaihngaa.Zg
open Go.RowKit

theorem Ow.extB {w w' : TW} {X : Nat → Prop} {B : Nat} {s : Sl} {l : List Nat} (h : Ow w B s l) (hx : Ext X w w') (hX : ∀ b, X b → b < B) : Ow w' B s l :=
  h.extX hx fun c hc h' => by have := h.blk_le c hc; have := hX c h'; omega
theorem Lent.extB {w w' : TW} {X : Nat → Prop} {B : Nat} {s : Sl} {l : List Nat} (h : Lent w B s l) (hx : Ext X w w') (hX : ∀ b, X b → b < B) : Lent w' B s l :=
  h.imp fun _ h => ⟨h.1, h.2.1.extB hx hX, h.2.2⟩
theorem Lent.extX {w w' : TW} {X : Nat → Prop} {B : Nat} {s : Sl} {l : List Nat} (h : Lent w B s l) (hx : Ext X w w') (hX : ∀ b, s.blk = some b → ¬ X b) : Lent w' B s l := by
  obtain ⟨f, rfl, h1, h2⟩ := h
  exact ⟨f, rfl, h1.extX hx fun c hc => hX c (by rw [← hc]; simp [Sl.blk, cut0_p]), h2⟩
theorem Lent.blk {w : TW} {B : Nat} {s : Sl} {l : List Nat} (h : Lent w B s l) : ∀ b, s.blk = some b → B ≤ b ∧ b < w.w.heap.size := by
  obtain ⟨f, rfl, h1, h2⟩ := h
  intro b hb
  refine h1.from_ b ?_
  rw [← hb]
  simp [Sl.blk, cut0_p]

theorem law05_SchoolMuls {w : TW} {t : HL I11} {a b : Sl} (ha : Arg w a) (hb : Arg w b) : Ct Pg F.zigguratlaw05_SchoolMuls [.agg (encs I11 t).toArray, a.v, b.v] w none_ [.one .bool] fun (r : Bool) _ => r = true := by
  obtain ⟨la, ha⟩ := ha
  obtain ⟨lb, hb⟩ := hb
  refine Ct.zigguratlaw05_SchoolMuls ?_
  unfold Sh.zigguratlaw05_SchoolMuls
  intro w1 e1
  refine cutc (n := 40) (ha.here.ext e1) rfl fun s w2 e2 hs _ => cutc (n := 40) ((hb.here.ext e1).ext e2) rfl fun s1 w3 e3 ht _ => ?_
  have hs := hs.ext e3
  have hx := sz_vl hs.sm
  have hy := sz_vl ht.sm
  have hla : (la.take 40).length ≤ 40 := by simp; omega
  have hlb : (lb.take 40).length ≤ 40 := by simp; omega
  generalize la.take 40 = l at *
  generalize lb.take 40 = m at *
  have e123 := (e1.trans e2).trans e3
  refine c1 (school_New (t := t)) ?_
  rintro p w4 e4 ⟨e, b, tab, he, hbe, hbt, hne, _, hm⟩
  have hns : ∀ c, w3.w.heap.size ≤ c → l ≠ [] → s.blk ≠ some c := fun c hc hl => old_blk hs hc hl
  have hnt : ∀ c, w3.w.heap.size ≤ c → m ≠ [] → s1.blk ≠ some c := fun c hc hl => old_blk ht hc hl
  refine cnd_f (by rw [he.is]; rfl) ?_
  refine c1 (keep_Lend (hs.ext e4) (by omega)) ?_
  intro s2 w5 e5 L1
  refine c1 (keep_Lend ((ht.ext e4).ext e5) (by omega)) ?_
  intro s3 w6 e6 L2
  have L1 := L1.ext e6
  have hb4 := hm.lt
  have e56 := e5.trans e6
  have hs := (hs.ext e4).ext e56
  have ht := (ht.ext e4).ext e56
  have hm := hm.ext e56
  have he := he.extX e56 fun h => h
  have k1 := L1.blk
  have k2 := L2.blk
  have z5 := e5.size
  have z4 := e4.size
  have z6 := e6.size
  refine cl_of (school_Mul he hm L1.rd L2.rd (fun _ h => by have := (L1.blk _ h).1; omega) (fun _ h => by have := (L2.blk _ h).1; omega) (by omega) (by omega)) (fun c hc => by subst hc; exact hm.V) ?_
  intro s4 w7 x7 hpost
  obtain ⟨h4, hm7⟩ := hpost
  have e7 := ((e123.trans e4).trans e56).own x7 fun c hc => by subst hc; exact Nat.le_trans e123.size hbt
  have L1 := L1.extB x7 fun c hc => by omega
  have L2 := L2.extB x7 fun c hc => by omega
  have hs := hs.extN x7 fun hl c hc h => hns c (by omega) hl hc
  have ht := ht.extN x7 fun hl c hc h => hnt c (by omega) hl hc
  have he := he.extX x7 hne
  have z7 := x7.size
  have dx := dz_of_sz hx
  have dy := dz_of_sz hy
  have hmn : l.length * m.length ≤ 40 * 40 := Nat.mul_le_mul hla hlb
  refine j1 (fun (r : Bool) w' => r = false ∧ Ext none_ w7 w') ?_ ?_
  · refine c1 (law05_from hs (by omega)) ?_
    intro s5 w8 e8 h5
    refine c1 (law05_from (ht.ext e8) (by omega)) ?_
    intro s6 w9 e9 h6
    refine c1 (ref_Mul (h5.ext e9).dr h6.dr (by omega) (by omega)) ?_
    intro s7 w10 e10 h7
    have hdz := dz_mul (vl W64 l) (vl W64 m)
    refine sm h7.dr (((h4.ext e8).ext e9).ext e10) (by omega) rfl fun w11 e11 => cnd_f rfl ?_
    have f := ((e8.trans e9).trans e10).trans e11
    have he := he.extX f fun h => h
    have hm := hm7.ext f
    rw [he.is]
    refine nck_some ⟨some ⟨b, 0, none⟩, he.cell, nck_some ?_⟩
    refine c1 (meter_Muls hm) ?_
    rintro r w12 e12 rfl
    refine bnd_eq (y := ((l.length * m.length : Nat) : Int)) (by rw [hs.len, ht.len]; exact wi_mul (by omega)) ⟨?_, f.trans e12⟩
    have : (if (0 : Int) < (l.length * m.length : Nat) then wi (0 + (l.length * m.length : Nat)) else 0) = ((l.length * m.length : Nat) : Int) := by
      split
      · rw [Int.zero_add]; exact wi_id (by omega) (by omega)
      · omega
    rw [this]
    simp
  rintro r w8 ⟨rfl, e8⟩
  refine cnd_f rfl ?_
  have h4 := On.ext h4 e8
  have b4 := fun c hc => (Ow.from_ h4 c hc)
  refine cl_of (keep_Spoil h4) (fun c hc => h4.ow.2 c hc) ?_
  intro w9 x9 _
  have z8 := e8.size
  have e9 := (e7.trans e8).own x9 fun c hc => by
    have := (b4 c hc).1
    exact Nat.le_trans (Nat.le_trans e123.size (Nat.le_trans z4 (Nat.le_trans z5 z6))) this
  have L1 := (L1.ext e8).extX x9 fun c hc h => by
    have := (b4 c h).1
    have := (k1 c hc).2
    omega
  have L2 := (L2.ext e8).extX x9 fun c hc h => by
    have := (b4 c h).1
    have := (k2 c hc).2
    omega
  have hs := (hs.ext e8).extN x9 fun hl c hc h => hns c (by have := (b4 c h).1; omega) hl hc
  have ht := (ht.ext e8).extN x9 fun hl c hc h => hnt c (by have := (b4 c h).1; omega) hl hc
  refine j1 (fun (r : Bool) w' => r = true ∧ Ext none_ w.here w') ?_ ?_
  · exact tact L1 hs (Ext.refl _ _) (by omega) fun w10 f10 => cnd_t rfl (tact L2 ht f10 (by omega) fun w11 f11 => cnd_t rfl (wk5 fun w12 e12 => ⟨rfl, (e9.trans f11).trans e12⟩))
  rintro r w' ⟨rfl, f⟩
  exact rt1 (c := .bool) _ f rfl
end Go.Proofs.Ythhohfgpaihngaa.Zg
end

section
namespace Go.Proofs.Ythhohfgpaihngaa.Zg
open Go.RowKit

/-- The squares of a row's first words, each at its place. -/
def Qs (l : List Nat) (j : Nat) : Nat := vl (W64 * W64) ((l.map fun x => x * x).take j)
theorem Qs_zero (l : List Nat) : Qs l 0 = 0 := by simp [Qs, vl_nil]
theorem Qs_succ (l : List Nat) (j : Nat) : Qs l (j + 1) = Qs l j + W64 ^ (2 * j) * (l.getD j 0 * l.getD j 0) := by
  unfold Qs
  rw [vl_take_getD, Nat.pow_mul, Nat.pow_two]
  congr 2
  simp only [List.getD_eq_getElem?_getD, List.getElem?_map]
  cases l[j]? <;> rfl
theorem vl_drop_succ (b : Nat) {l : List Nat} {j : Nat} (h : j < l.length) : vl b (l.drop j) = l.getD j 0 + b * vl b (l.drop (j + 1)) := by
  rw [List.drop_eq_getElem_cons h, vl_cons]
  simp [h]
theorem sqr_row {S T P' W v tl A j Q y : Nat} (h : 2 * S + Q + W ^ (2 * j) * (y * y) = A) (hy : y = v + W * tl) (hP : P' = S + W ^ (2 * j + 1) * tl * v) (hT : T = Q + W ^ (2 * j) * (v * v)) : 2 * P' + T + W ^ (2 * (j + 1)) * (tl * tl) = A := by
  subst hy hP hT
  have e1 : W ^ (2 * j + 1) = W ^ (2 * j) * W := Nat.pow_succ ..
  have e2 : W ^ (2 * (j + 1)) = W ^ (2 * j) * W * W := by rw [show 2 * (j + 1) = 2 * j + 1 + 1 by omega, Nat.pow_succ, Nat.pow_succ]
  rw [← h, e1, e2]
  generalize W ^ (2 * j) = p
  grind
theorem dbl_dvd (z : Nat) : (2 : Nat) ^ 1 ∣ z * 2 ^ 1 % W64 := (Nat.dvd_mod_iff ⟨9223372036854775808, rfl⟩).2 (Nat.dvd_mul_left _ _)
theorem dbl_mod (z : Nat) : z * 2 ^ 1 % W64 = z % 9223372036854775808 * 2 := by rw [w64]; omega
theorem top_le {z : Nat} (hz : z < 18446744073709551616) : z / 2 ^ 63 ≤ 1 := by omega
theorem car_le {x g lo c : Nat} (hg : g ≤ 1) (hl : lo < W64) (hc : c ≤ 1) : (x * 2 ^ 1 % W64 + g + lo + c) / 18446744073709551616 ≤ 1 := by rw [dbl_mod]; rw [w64] at hl; omega

theorem sqr_step {x y s s2 c g c' h' lo hi d W M P P' p L Q a H : Nat} (hs : x % M * 2 + g + lo + c = s + W * d) (h2 : y % M * 2 + H + hi + d = s2 + W * c') (hW : W = M * 2) (hH : H = x / M) (hh : h' = y / M) (ha : lo + W * hi = a)
    (hP : P' + p * x + p * W * y = P + p * s + p * W * s2) (h0 : P + p * (c + g) = L + Q) : P' + p * W * W * (c' + h') = L + (p * x + p * W * y) + (Q + p * a) := by
  have e1 := Nat.div_add_mod x M
  have e2 := Nat.div_add_mod y M
  rw [← hH] at e1
  rw [← hh] at e2
  generalize x % M = xm at *
  generalize y % M = ym at *
  subst e1 e2 hW ha
  have e3 : p * (s + M * 2 * d) = p * (xm * 2 + g + lo + c) := by rw [hs]
  have e4 : p * (M * 2) * (s2 + M * 2 * c') = p * (M * 2) * (ym * 2 + H + hi + d) := by rw [h2]
  grind

theorem school_Sqr {w : TW} {p : Option Addr} {e t : Nat} {m a0 b0 : Int} {tab : List Int} {a : Sl} {la : List Nat} (he : En w p e t) (hm : Tn w t m a0 b0 tab) (ha : Rd w a la) (hat : la ≠ [] → a.blk ≠ some t)
    (hla : la.length ≤ 1048576) : Ct Pg F.school_Engine_Sqr [.pointer p, a.v] w (fun k => k = t) [.one .slice] fun (s' : Sl) w' => On w' w.w.heap.size s' (vl W64 la * vl W64 la) ∧ Tn w' t (if (0 : Int) < (la.length * (la.length + 1) / 2 : Nat) then wi (m + (la.length * (la.length + 1) / 2 : Nat)) else m) a0 b0 tab := by
  refine Ct.school_Engine_Sqr ?_
  unfold Sh.school_Engine_Sqr
  have na := ha.len
  have hprod : la.length * (la.length + 1) ≤ 1048576 * 1048577 := Nat.mul_le_mul hla (by omega)
  rw [he.is]
  refine nck_some ⟨some ⟨t, 0, none⟩, he.cell, nck_some ?_⟩
  refine bnd_wi (by omega) (by omega) (bnd_eq (y := ((la.length * (la.length + 1) : Nat) : Int)) (by rw [na, show ((la.length : Int) + 1) = ((la.length + 1 : Nat) : Int) by omega]; exact wi_mul (by omega)) ?_)
  refine divNi (x := la.length * (la.length + 1)) (y := 2) rfl rfl (by omega) (by decide) ?_
  refine cl_of (meter_Spend hm.here) (fun b hb => by subst hb; exact hm.V) ?_
  intro r w1 x1 hpost
  obtain ⟨-, hm1⟩ := hpost
  have ha1 := ha.here.extN x1 fun hl c hc h => hat hl (by rw [hc, h])
  refine bnd_wi (by omega) (by omega) (mk_u64 (N := 2 * la.length) (by omega) (by omega) fun o w2 ho _ e2 _ => ?_)
  obtain ⟨A, hA⟩ : ∃ A, vl W64 la * vl W64 la = A := ⟨_, rfl⟩
  rw [hA]
  refine j0 (fun w3 => ∃ P, Ow w3 w1.w.heap.size o P ∧ P.length = 2 * la.length ∧ 2 * vl W64 P + Qs la la.length = A ∧ Ext none_ w1 w3) ?_ ?_
  · refine lp1 (fun m (i : Int) w3 => ∃ (j : Nat) (P : List Nat), i = j ∧ m = la.length - j ∧ j ≤ la.length ∧ P.length = 2 * la.length ∧ Ow w3 w1.w.heap.size o P ∧ 2 * vl W64 P + Qs la j + W64 ^ (2 * j) * (vl W64 (la.drop j) * vl W64 (la.drop j)) = A ∧ (∀ k, j + la.length ≤ k → P.getD k 0 = 0) ∧ Ext none_ w1 w3) la.length ⟨0, _, rfl, by omega, by omega, by simp, ho, by rw [vl_zeros, Qs_zero]; simpa using hA, fun k _ => by simp [List.getElem?_replicate]; split <;> rfl, e2⟩ ?_
    rintro m i w3 ⟨j, P, rfl, rfl, hj, hP, ho, hv, hz, e3⟩
    refine cnd_d (fun h => ?_) (fun h => ?_)
    · have hva := ha.lt j
      have hj1 : j < la.length := by omega
      have hy := vl_drop_succ W64 hj1
      have hQ := Qs_succ la j
      obtain ⟨S, hS⟩ : ∃ S, vl W64 P = S := ⟨_, rfl⟩
      rw [hS] at hv
      refine (ha1.ext e3).ix rfl hj1 ?_
      generalize la.getD j 0 = v at *
      refine bnd_wi (by omega) (by omega) ?_
      obtain ⟨tl, htl⟩ : ∃ tl, tl = la.drop (j + 1) := ⟨_, rfl⟩
      have hnt : tl.length = la.length - (j + 1) := by rw [htl]; simp
      rw [← htl] at hy
      refine j1 (fun (c : Int) w4 => ∃ (P : List Nat) (d : Nat), c = d ∧ d < W64 ∧ P.length = 2 * la.length ∧ Ow w4 w1.w.heap.size o P ∧ vl W64 P + W64 ^ (j + la.length) * d = S + W64 ^ (2 * j + 1) * vl W64 tl * v ∧ (∀ k, j + la.length ≤ k → P.getD k 0 = 0) ∧ Ext none_ w1 w4) ?_ ?_
      · refine lp2 (fun m (c i : Int) w4 => ∃ (q d : Nat) (P : List Nat), c = d ∧ i = (j + 1 + q : Nat) ∧ m = tl.length - q ∧ q ≤ tl.length ∧ d < W64 ∧ P.length = 2 * la.length ∧ Ow w4 w1.w.heap.size o P ∧ vl W64 P + W64 ^ (2 * j + 1 + q) * d = S + W64 ^ (2 * j + 1) * vl W64 (tl.take q) * v ∧ (∀ k, j + la.length ≤ k → P.getD k 0 = 0) ∧ Ext none_ w1 w4) tl.length ⟨0, 0, P, rfl, by omega, by omega, by omega, by decide, hP, ho, by rw [hS, Nat.mul_zero, List.take_zero, vl_nil, Nat.mul_zero, Nat.zero_mul], hz, e3⟩ ?_
        clear ho hz e3 hP hS P
        rintro m c i w4 ⟨q, d, P, rfl, rfl, rfl, hq, hd, hP, ho, hv, hz, e4⟩
        refine cnd_d (fun h1 => ?_) (fun h1 => ?_)
        · have hvb := ha.lt (j + 1 + q)
          have hgb := vl_take_getD W64 tl q
          have hg : tl.getD q 0 = la.getD (j + 1 + q) 0 := by rw [htl]; simp [List.getD_eq_getElem?_getD]
          rw [hg] at hgb
          have hjq : 2 * j + 1 + q < P.length := by omega
          refine (ha1.ext e4).ix (j := j + 1 + q) rfl (by omega) ?_
          generalize la.getD (j + 1 + q) 0 = bj at *
          refine c2 (bits_Mul64 hva hvb) ?_
          rintro hi lo w5 e5 ⟨rfl, rfl⟩
          have ho := ho.ext e5
          have e5 := e4.trans e5
          have hm := Nat.div_add_mod (v * bj) W64
          have hV1 := ho.rd.lt (2 * j + 1 + q)
          have hset := vl_set (b := W64) hjq
          rw [show P[2 * j + 1 + q] = P.getD (2 * j + 1 + q) 0 by simp [hjq]] at hset
          have hlt : v * bj + d + P.getD (2 * j + 1 + q) 0 < W64 * W64 := by
            have : v * bj ≤ 18446744073709551615 * 18446744073709551615 := Nat.mul_le_mul (by omega) (by omega)
            rw [w64] at hd ⊢
            omega
          generalize hH : v * bj / W64 = H at *
          generalize hL : v * bj % W64 = L at *
          have hL1 : L < W64 := by rw [← hL]; exact Nat.mod_lt _ (by decide)
          refine ⟨L, d, 0, rfl, rfl, rfl, by omega, ?_⟩
          rw [w64] at hm hlt hL1 hd
          refine bnd_wu' (y := H + (L + d + 0) / 18446744073709551616) (by simp) (by rw [w64]; omega) (bnd_wi (by omega) (by omega) (bnd_wi (by omega) (by omega) ?_))
          refine ho.rd.ix (j := 2 * j + 1 + q) (by omega) hjq ?_
          generalize P.getD (2 * j + 1 + q) 0 = V at *
          refine ⟨V, (L + d + 0) % 18446744073709551616, 0, rfl, rfl, rfl, by omega, ?_⟩
          refine ho.store (j := 2 * j + 1 + q) (by omega) hjq (Nat.mod_lt _ (by decide)) rfl fun w6 ho6 e6 => ?_
          refine bnd_wu' (y := H + (L + d + 0) / 18446744073709551616 + (V + (L + d + 0) % 18446744073709551616 + 0) / 18446744073709551616) (by simp) (by rw [w64]; omega) ?_
          refine bnd_wi (by omega) (by omega) ⟨tl.length - (q + 1), by omega, q + 1, _, _, rfl, by omega, rfl, by omega, by rw [w64]; omega, by simp [hP], ho6, ?_, fun k hk => (getD_set_ne (by omega)).trans (hz k hk), e5.own e6 ho.blk_le⟩
          have e9 : W64 ^ (2 * j + 1) * (vl W64 (tl.take q) + W64 ^ q * bj) * v = (W64 ^ (2 * j + 1) * vl W64 (tl.take q) + W64 ^ (2 * j + 1 + q) * bj) * v := by rw [Nat.mul_add, ← Nat.mul_assoc, ← Nat.pow_add]
          have e10 : W64 ^ (2 * j + 1 + (q + 1)) = W64 ^ (2 * j + 1 + q) * W64 := by rw [← Nat.add_assoc]; exact Nat.pow_succ ..
          rw [e10, hgb, e9]
          exact mul_step (b := bj) (y := v) (by rw [w64, Nat.mul_comm bj]; omega) rfl rfl rfl rfl rfl (hset _) hv
        · have : q = tl.length := by omega
          subst this
          refine ⟨P, d, rfl, hd, hP, ho, ?_, hz, e4⟩
          rw [List.take_of_length_le (l := tl) (Nat.le_refl _)] at hv
          rw [← hv]
          congr 3
          omega
      · clear ho hz e3 hP hS P
        rintro c w4 ⟨P, d, rfl, hd, hP, ho, hv4, hz, e4⟩
        have hjq : j + la.length < P.length := by omega
        refine bnd_wi (by omega) (by omega) (ho.store (j := j + la.length) (by omega) hjq hd rfl fun w5 ho5 e5 => ?_)
        refine bnd_wi (by omega) (by omega) ⟨la.length - (j + 1), by omega, j + 1, _, by omega, rfl, by omega, by simp [hP], ho5, ?_, fun k hk => (getD_set_ne (by omega)).trans (hz k (by omega)), e4.own e5 ho.blk_le⟩
        have hset := vl_set (b := W64) hjq d
        have h0 := hz _ (Nat.le_refl _)
        rw [show P[j + la.length] = P.getD (j + la.length) 0 by simp [hjq], h0, Nat.mul_zero, Nat.add_zero] at hset
        rw [← htl]
        exact sqr_row hv hy (hset.trans hv4) hQ
    · have : j = la.length := by omega
      subst this
      rw [List.drop_of_length_le (Nat.le_refl _)] at hv
      exact ⟨P, ho, hP, by simpa [vl_nil] using hv, e3⟩
  rintro w3 ⟨P0, ho, hP0, hv0, e3⟩
  refine j0 (fun w4 => ∃ P, Ow w4 w1.w.heap.size o P ∧ P.length = 2 * la.length ∧ vl W64 P = A ∧ Ext none_ w1 w4) ?_ ?_
  · refine lp3 (fun m (c g i : Int) w4 => ∃ (j d h : Nat) (P : List Nat), c = d ∧ g = h ∧ i = j ∧ m = la.length - j ∧ j ≤ la.length ∧ d ≤ 1 ∧ h ≤ 1 ∧ P.length = 2 * la.length ∧ Ow w4 w1.w.heap.size o P ∧ vl W64 P + W64 ^ (2 * j) * (d + h) = vl W64 P0 + vl W64 (P0.take (2 * j)) + Qs la j ∧ (∀ k, 2 * j ≤ k → P.getD k 0 = P0.getD k 0) ∧ Ext none_ w1 w4) la.length ⟨0, 0, 0, P0, rfl, rfl, rfl, by omega, by omega, by omega, by omega, hP0, ho, by simp [Qs_zero, vl_nil], fun _ _ => rfl, e3⟩ ?_
    clear ho e3
    rintro m c g i w4 ⟨j, d, h, P, rfl, rfl, rfl, rfl, hj, hd, hh, hP, ho, hv, hz, e4⟩
    refine cnd_d (fun h1 => ?_) (fun h1 => ?_)
    · have hva := ha.lt j
      have hj1 : j < la.length := by omega
      have hQ := Qs_succ la j
      refine (ha1.ext e4).ix rfl hj1 ?_
      generalize la.getD j 0 = v at *
      refine c2 (bits_Mul64 hva hva) ?_
      rintro hi lo w5 e5 ⟨rfl, rfl⟩
      have ho := (ho.ext e5).drew
      have e5 := (e4.trans e5).drew
      have hm := Nat.div_add_mod (v * v) W64
      have hlt : v * v ≤ 18446744073709551615 * 18446744073709551615 := Nat.mul_le_mul (by omega) (by omega)
      have hL1 := Nat.mod_lt (v * v) (show 0 < W64 by decide)
      generalize hH : v * v / W64 = H at *
      generalize hL : v * v % W64 = L at *
      have hH1 : H < W64 := by rw [w64] at hm ⊢; omega
      have p1 : 2 * j < P.length := by omega
      have p2 : 2 * j + 1 < P.length := by omega
      have hx := ho.rd.lt (2 * j)
      have hy := ho.rd.lt (2 * j + 1)
      have ht1 := vl_take_getD W64 P0 (2 * j)
      have ht2 := vl_take_getD W64 P0 (2 * j + 1)
      rw [← hz _ (Nat.le_refl _)] at ht1
      rw [← hz _ (Nat.le_succ _)] at ht2
      have hset1 := vl_set (b := W64) p1
      rw [show P[2 * j] = P.getD (2 * j) 0 by simp [p1]] at hset1
      have hset2 := fun s1 => vl_set (b := W64) (l := P.set (2 * j) s1) (k := 2 * j + 1) (by simp; omega)
      have hg2 : ∀ s1, (P.set (2 * j) s1)[2 * j + 1]? = some (P.getD (2 * j + 1) 0) := fun s1 => by rw [List.getElem?_set_ne (by omega)]; simp [p2]
      refine bnd_wi (by omega) (by omega) (ho.rd.ix (j := 2 * j) (by omega) p1 ?_)
      refine bnd_wi (by omega) (by omega) (bnd_wi (by omega) (by omega) (ho.rd.ix (j := 2 * j + 1) (by omega) p2 ?_))
      generalize P.getD (2 * j) 0 = x at *
      generalize P.getD (2 * j + 1) 0 = y at *
      refine shlN (x := x) (n := 1) rfl rfl (by decide) (bnd_plus (k := 1) rfl rfl (Nat.mod_lt _ (by decide)) (Nat.lt_of_le_of_lt hh (by decide)) (dbl_dvd x) (by omega) ?_)
      refine ⟨_, L, d, rfl, rfl, rfl, hd, ?_⟩
      refine bnd_wi (by omega) (by omega) (ho.store (j := 2 * j) (by omega) p1 (Nat.mod_lt _ (by decide)) rfl fun w6 ho6 e6 => ?_)
      refine shlN (x := y) (n := 1) rfl rfl (by decide) (shrN (x := x) (n := 63) rfl rfl (by decide) (bnd_plus (k := 1) rfl rfl (Nat.mod_lt _ (by decide)) (Nat.lt_of_le_of_lt (top_le hx) (by decide)) (dbl_dvd y) (by have := top_le hx; omega) ?_))
      refine ⟨_, H, _, rfl, rfl, rfl, ?_, ?_⟩
      · exact car_le hh hL1 hd
      refine bnd_wi (by omega) (by omega) (bnd_wi (by omega) (by omega) (ho6.store (j := 2 * j + 1) (by omega) (by simp; omega) (Nat.mod_lt _ (by decide)) rfl fun w7 ho7 e7 => ?_))
      refine shrN (x := y) (n := 63) rfl rfl (by decide) (bnd_wi (by omega) (by omega) ⟨la.length - (j + 1), by omega, j + 1, _, _, _, rfl, rfl, by omega, rfl, by omega, ?_, ?_, by simp [hP], ho7, ?_, ?_, (e5.own e6 ho.blk_le).own e7 ho6.blk_le⟩)
      · exact car_le (top_le hx) hH1 (car_le hh hL1 hd)
      · exact top_le hy
      · have e1 : W64 ^ (2 * j + 1) = W64 ^ (2 * j) * W64 := Nat.pow_succ ..
        have e2 : W64 ^ (2 * j + 1 + 1) = W64 ^ (2 * j) * W64 * W64 := by rw [Nat.pow_succ, e1]
        rw [e1] at ht2
        rw [hQ, show 2 * (j + 1) = 2 * j + 1 + 1 by omega, e2, ht2, ht1]
        have hs1 := Nat.div_add_mod (x * 2 ^ 1 % W64 + h + L + d) W64
        have hs2 := Nat.div_add_mod (y * 2 ^ 1 % W64 + x / 2 ^ 63 + H + (x * 2 ^ 1 % W64 + h + L + d) / W64) W64
        have hp1 := hset1 ((x * 2 ^ 1 % W64 + h + L + d) % W64)
        have hp2 := hset2 ((x * 2 ^ 1 % W64 + h + L + d) % W64) ((y * 2 ^ 1 % W64 + x / 2 ^ 63 + H + (x * 2 ^ 1 % W64 + h + L + d) / W64) % W64)
        rw [e1] at hp2
        have hg3 := hg2 ((x * 2 ^ 1 % W64 + h + L + d) % W64)
        rw [List.getElem_eq_iff _ |>.2 hg3] at hp2
        refine (sqr_step (s := (x * 2 ^ 1 % W64 + h + L + d) % W64) (s2 := (y * 2 ^ 1 % W64 + x / 2 ^ 63 + H + (x * 2 ^ 1 % W64 + h + L + d) / W64) % W64) (d := (x * 2 ^ 1 % W64 + h + L + d) / W64) (x := x) (y := y) (c := d) (g := h) (lo := L) (hi := H) (W := W64) (M := 9223372036854775808) (P := vl W64 P) (p := W64 ^ (2 * j)) (L := vl W64 P0 + vl W64 (P0.take (2 * j))) (Q := Qs la j) (a := v * v) (H := x / 2 ^ 63) ?_ ?_ rfl rfl rfl ?_ ?_ hv).trans ?_
        · rw [← dbl_mod]; exact hs1.symm.trans (Nat.add_comm ..)
        · rw [← dbl_mod]; exact hs2.symm.trans (Nat.add_comm ..)
        · rw [Nat.add_comm]; exact hm
        · clear hs1 hs2 hv hset1 hset2 hg2 hg3 ht1 ht2
          generalize (x * 2 ^ 1 % W64 + h + L + d) % W64 = s1 at *
          show vl W64 ((P.set (2 * j) s1).set (2 * j + 1) _) + _ + _ = _
          rw [Nat.add_right_comm, hp2, Nat.add_right_comm, hp1]
        · simp only [Nat.add_assoc]
      · intro k hk
        rw [getD_set_ne (by omega), getD_set_ne (by omega)]
        exact hz k (by omega)
    · have : j = la.length := by omega
      subst this
      refine ⟨P, ho, hP, ?_, e4⟩
      rw [List.take_of_length_le (by omega)] at hv
      have hA2 : A < W64 ^ (2 * la.length) := by
        rw [← hA, Nat.two_mul, Nat.pow_add]
        exact Nat.mul_lt_mul'' (vl_lt ha.sm) (vl_lt ha.sm)
      obtain ⟨p, hp⟩ : ∃ p, W64 ^ (2 * la.length) = p := ⟨_, rfl⟩
      rw [hp] at hv hA2
      have : d + h = 0 := by
        rcases Nat.eq_zero_or_pos (d + h) with h | h
        · exact h
        · have := Nat.le_mul_of_pos_right p h
          omega
      rw [this] at hv
      omega
  rintro w4 ⟨P, ho, hP, hv, e4⟩
  have hsz : sz (vl W64 P) ≤ 1099511627776 := by
    have := sz_vl ho.sm
    omega
  refine c1 (limb_Norm (x := vl W64 P) ho.rd.nt hsz) ?_
  intro s3 w5 e5 h4
  rw [hv] at h4
  have e34 := e4.trans e5
  refine rt1 (c := .slice) _ (x1.trans e34.any) ⟨(h4.less ?_).at, (hm1.ext e34).at⟩
  exact Nat.le_trans x1.size e4.size
end Go.Proofs.Ythhohfgpaihngaa.Zg
end

section
namespace Go.Proofs.Ythhohfgpaihngaa.Zg
open Go.RowKit

theorem Tn.put {w : TW} {t : Nat} {xs : List Int} (h : w.w.heap[t]? = some (.cells (xs.map (Value.int .i64)).toArray T.table_Tune (0, 0))) (hV : ¬ w.V t) {j : Nat} (hj : j < xs.length) (x : Int) {K : TW → Prop} (hK : ∀ w', w'.w.heap[t]? = some (.cells ((xs.set j x).map (Value.int .i64)).toArray T.table_Tune (0, 0)) → ¬ w'.V t → Ext (fun k => k = t) w w' → K w') : stc w ⟨t, j, none⟩ (.int .i64 x) K := by
  refine ⟨⟨.int .i64 xs[j], ?_⟩, by simp [World.frozen?, h], hV, hK (w.set ⟨t, j, none⟩ (.int .i64 x)) ?_ hV ⟨rfl, rfl, rfl, by simp [TW.set, World.setCell], rfl, fun _ h => h, fun _ h => .inl h, fun k _ hX _ => Below.heap_setCell w.w _ _ k hX, fun k _ => setCell_shape _ _ _ _⟩⟩
  · rw [cell_of_row w.w t j _ T.table_Tune (0, 0) h]
    simp [hj]
  · simp [TW.set, World.setCell, Array.getElem?_modify, h, List.map_set]

theorem meter_Reset {w : TW} {t : Nat} {m a b : Int} {tab : List Int} (h : Tn w t m a b tab) : Ct Pg F.meter_Meter_Reset [.pointer (some ⟨t, 0, none⟩)] w (fun k => k = t) [] fun w' => Tn w' t 0 0 0 tab := by
  refine Ct.meter_Meter_Reset ?_
  unfold Sh.meter_Meter_Reset
  refine nck_some (Tn.put (j := 0) h.here.at_ h.here.V (by simp) _ fun w1 h1 v1 e1 => ?_)
  refine Tn.put (j := 1) h1 v1 (by simp) _ fun w2 h2 v2 e2 => Tn.put (j := 2) h2 v2 (by simp) _ fun w3 h3 v3 e3 => ?_
  exact rt0 ((e1.trans e2).trans e3) (Tn.at ⟨h3, v3⟩)

theorem law05_SchoolSquares {w : TW} {t : HL I11} {a : Sl} (ha : Arg w a) : Ct Pg F.zigguratlaw05_SchoolSquares [.agg (encs I11 t).toArray, a.v] w none_ [.one .bool] fun (r : Bool) _ => r = true := by
  obtain ⟨la, ha⟩ := ha
  refine Ct.zigguratlaw05_SchoolSquares ?_
  unfold Sh.zigguratlaw05_SchoolSquares
  intro w1 e1
  refine cutc (n := 40) (ha.here.ext e1) rfl fun s w3 e3 hs _ => ?_
  have hx := sz_vl hs.sm
  have hla : (la.take 40).length ≤ 40 := by simp; omega
  generalize la.take 40 = l at *
  have e123 := e1.trans e3
  refine c1 (school_New (t := t)) ?_
  rintro p w4 e4 ⟨e, b, tab, he, hbe, hbt, hne, _, hm⟩
  have hns : ∀ c, w3.w.heap.size ≤ c → l ≠ [] → s.blk ≠ some c := fun c hc hl => old_blk hs hc hl
  refine cnd_f (by rw [he.is]; rfl) ?_
  refine c1 (keep_Lend (hs.ext e4) (by omega)) ?_
  intro s2 w5 e5 L1
  have hb4 := hm.lt
  have hs := (hs.ext e4).ext e5
  have hm := hm.ext e5
  have he := he.extX e5 fun h => h
  have k1 := L1.blk
  have z5 := e5.size
  have z4 := e4.size
  refine cl_of (school_Sqr he hm L1.rd (fun _ h => by have := (L1.blk _ h).1; omega) (by omega)) (fun c hc => by subst hc; exact hm.V) ?_
  intro s4 w7 x7 hpost
  obtain ⟨h4, hm7⟩ := hpost
  have e7 := ((e123.trans e4).trans e5).own x7 fun c hc => by subst hc; exact Nat.le_trans e123.size hbt
  have L1 := L1.extB x7 fun c hc => by omega
  have hs := hs.extN x7 fun hl c hc h => hns c (by omega) hl hc
  have he := he.extX x7 hne
  have z7 := x7.size
  have dx := dz_of_sz hx
  have hmn : l.length * (l.length + 1) ≤ 40 * 41 := Nat.mul_le_mul hla (by omega)
  refine j1 (fun (r : Bool) w' => r = false ∧ Ext none_ w7 w') ?_ ?_
  · refine c1 (law05_from hs (by omega)) ?_
    intro s5 w8 e8 h5
    refine c1 (law05_from (hs.ext e8) (by omega)) ?_
    intro s6 w9 e9 h6
    refine c1 (ref_Mul (h5.ext e9).dr h6.dr (by omega) (by omega)) ?_
    intro s7 w10 e10 h7
    have hdz := dz_mul (vl W64 l) (vl W64 l)
    refine sm h7.dr (((h4.ext e8).ext e9).ext e10) (by omega) rfl fun w11 e11 => cnd_f rfl ?_
    have f := ((e8.trans e9).trans e10).trans e11
    have he := he.extX f fun h => h
    have hm := hm7.ext f
    have hsn := hs.len
    rw [he.is]
    refine nck_some ⟨some ⟨b, 0, none⟩, he.cell, nck_some ?_⟩
    refine c1 (meter_Muls hm) ?_
    rintro r w12 e12 rfl
    refine bnd_wi (by omega) (by omega) (bnd_eq (y := ((l.length * (l.length + 1) : Nat) : Int)) (by rw [hsn, show ((l.length : Int) + 1) = ((l.length + 1 : Nat) : Int) by omega]; exact wi_mul (by omega)) ?_)
    refine divNi (x := l.length * (l.length + 1)) (y := 2) rfl rfl (by omega) (by decide) ⟨?_, f.trans e12⟩
    obtain ⟨k, hk⟩ : ∃ k, k = l.length * (l.length + 1) / 2 := ⟨_, rfl⟩
    rw [← hk]
    have : (if (0 : Int) < (k : Nat) then wi (0 + (k : Nat)) else 0) = (k : Int) := by
      split
      · rw [Int.zero_add]; exact wi_id (by omega) (by omega)
      · omega
    rw [this]
    simp
  rintro r w8 ⟨rfl, e8⟩
  refine cnd_f rfl ?_
  have h4 := On.ext h4 e8
  have b4 := fun c hc => (Ow.from_ h4 c hc)
  refine cl_of (keep_Spoil h4) (fun c hc => h4.ow.2 c hc) ?_
  intro w9 x9 _
  have z8 := e8.size
  have e9 := (e7.trans e8).own x9 fun c hc => by
    have := (b4 c hc).1
    exact Nat.le_trans (Nat.le_trans e123.size (Nat.le_trans z4 z5)) this
  have L1 := (L1.ext e8).extX x9 fun c hc h => by
    have := (b4 c h).1
    have := (k1 c hc).2
    omega
  have hs := (hs.ext e8).extN x9 fun hl c hc h => hns c (by have := (b4 c h).1; omega) hl hc
  refine j1 (fun (r : Bool) w' => r = true ∧ Ext none_ w.here w') ?_ ?_
  · exact tact L1 hs (Ext.refl _ _) (by omega) fun w10 f10 => cnd_t rfl (wk5 fun w12 e12 => ⟨rfl, (e9.trans f10).trans e12⟩)
  rintro r w' ⟨rfl, f⟩
  exact rt1 (c := .bool) _ f rfl
end Go.Proofs.Ythhohfgpaihngaa.Zg
end

section
namespace Go.Proofs.Ythhohfgpaihngaa.Zg
open Go.RowKit

/-- An engine made since w0. -/
structure Es (w0 w : TW) (p : Option Addr) (e b : Nat) (m : Int) (tab : List Int) : Prop where
  en : En w p e b
  tn : Tn w b m 0 0 tab
  ne : e ≠ b
  old : w0.w.heap.size ≤ b
  ex : Ext none_ w0 w
theorem Es.ext {w0 w w' : TW} {p : Option Addr} {e b : Nat} {m : Int} {tab : List Int} (h : Es w0 w p e b m tab) (x : Ext none_ w w') : Es w0 w' p e b m tab := ⟨h.en.extX x fun h => h, h.tn.ext x, h.ne, h.old, h.ex.trans x⟩
theorem Es.lt {w0 w : TW} {p : Option Addr} {e b : Nat} {m : Int} {tab : List Int} (h : Es w0 w p e b m tab) : b < w.w.heap.size := h.tn.lt

theorem mulE {w0 w : TW} {p : Option Addr} {e b : Nat} {m : Int} {tab : List Int} {s t : Sl} {la lb : List Nat} {z : Nat} (h : Es w0 w p e b m tab) (ha : Rd w s la) (hb : Rd w t lb) (hat : la ≠ [] → s.blk ≠ some b) (hbt : lb ≠ [] → t.blk ≠ some b)
    (hla : la.length ≤ 1048576) (hlb : lb.length ≤ 1048576) (hz : vl W64 la * vl W64 lb = z) {K : Sl → TW → Prop} (hK : ∀ s' w' m', Es w0 w' p e b m' tab → Ext (fun k => k = b) w w' → On w' w.w.heap.size s' z → K s' w') : cl Pg F.school_Engine_Mul [.pointer p, s.v, t.v] w [.one .slice] K := by
  subst hz
  refine cl_of (school_Mul h.en h.tn ha hb hat hbt hla hlb) (fun c hc => by subst hc; exact h.tn.V) ?_
  intro s4 w7 x7 hpost
  obtain ⟨h4, hm7⟩ := hpost
  exact hK _ _ _ ⟨h.en.extX x7 h.ne, hm7, h.ne, h.old, h.ex.own x7 fun c hc => by subst hc; exact h.old⟩ x7 h4
theorem sqrE {w0 w : TW} {p : Option Addr} {e b : Nat} {m : Int} {tab : List Int} {s : Sl} {la : List Nat} (h : Es w0 w p e b m tab) (ha : Rd w s la) (hat : la ≠ [] → s.blk ≠ some b)
    (hla : la.length ≤ 1048576) {K : Sl → TW → Prop} (hK : ∀ s' w' m', Es w0 w' p e b m' tab → Ext (fun k => k = b) w w' → On w' w.w.heap.size s' (vl W64 la * vl W64 la) → K s' w') : cl Pg F.school_Engine_Sqr [.pointer p, s.v] w [.one .slice] K := by
  refine cl_of (school_Sqr h.en h.tn ha hat hla) (fun c hc => by subst hc; exact h.tn.V) ?_
  intro s4 w7 x7 hpost
  obtain ⟨h4, hm7⟩ := hpost
  exact hK _ _ _ ⟨h.en.extX x7 h.ne, hm7, h.ne, h.old, h.ex.own x7 fun c hc => by subst hc; exact h.old⟩ x7 h4
/-- Two own rows of one number are the same. -/
theorem sameO {w : TW} {B C : Nat} {s t : Sl} {x y : Nat} (h : On w B s x) (k : On w C t y) (hxy : x = y) {K : Bool → TW → Prop} (hK : ∀ w', Ext none_ w w' → K true w') : cl Pg F.zigguratkeep_Same [s.v, t.v] w [.one .bool] K := by
  subst hxy
  refine c1 (keep_Same h.rd k.rd) ?_
  rintro r w' e rfl
  exact hK w' e

theorem law05_SchoolLaws {w : TW} {t : HL I11} {a b d : Sl} (ha : Arg w a) (hb : Arg w b) (hd : Arg w d) : Ct Pg F.zigguratlaw05_SchoolLaws [.agg (encs I11 t).toArray, a.v, b.v, d.v] w none_ [.one .bool] fun (r : Bool) _ => r = true := by
  obtain ⟨la, ha⟩ := ha
  obtain ⟨lb, hb⟩ := hb
  obtain ⟨ld, hd⟩ := hd
  refine Ct.zigguratlaw05_SchoolLaws ?_
  unfold Sh.zigguratlaw05_SchoolLaws
  intro w1 e1
  refine cutc (n := 14) (ha.here.ext e1) rfl fun s w2 e2 hs _ => cutc (n := 14) ((hb.here.ext e1).ext e2) rfl fun s1 w3 e3 ht _ => cutc (n := 14) (((hd.here.ext e1).ext e2).ext e3) rfl fun s2 w4 e4 hu _ => ?_
  have hs := (hs.ext e3).ext e4
  have ht := ht.ext e4
  have hla : (la.take 14).length ≤ 14 := by simp; omega
  have hlb : (lb.take 14).length ≤ 14 := by simp; omega
  have hld : (ld.take 14).length ≤ 14 := by simp; omega
  generalize la.take 14 = l at *
  generalize lb.take 14 = m at *
  generalize ld.take 14 = n at *
  have hx := sz_vl hs.sm
  have hy := sz_vl ht.sm
  have hz := sz_vl hu.sm
  have e14 := ((e1.trans e2).trans e3).trans e4
  clear e1 e2 e3 e4
  refine c1 (school_New (t := t)) ?_
  rintro p w5 e5 ⟨e, b, tab, he, hbe, hbt, hne, _, hm⟩
  have hns : l ≠ [] → s.blk ≠ some b := fun hl => old_blk hs hbt hl
  have hnt : m ≠ [] → s1.blk ≠ some b := fun hl => old_blk ht hbt hl
  have hnu : n ≠ [] → s2.blk ≠ some b := fun hl => old_blk hu hbt hl
  have E : Es w4 w5 p e b 0 tab := ⟨he, hm, hne, hbt, e5⟩
  refine cnd_f (by rw [he.is]; rfl) ?_
  have far : ∀ {w w' : TW} {B : Nat} {o : Sl} {z : Nat}, On w B o z → b < B → Ext (fun k => k = b) w w' → On w' B o z := fun h hB x => Ow.extB h x fun c hc => by omega
  have nbk : ∀ {w : TW} {B : Nat} {o : Sl} {z : Nat}, On w B o z → b < B → o.blk ≠ some b := fun h hB hc => by have := Ow.blk_le h b hc; omega
  refine j1 (fun (r : Bool) w' => r = false ∧ ∃ m', Es w4 w' p e b m' tab) ?_ ?_
  · have hl0 := E.lt
    refine mulE E (hs.ext E.ex) (ht.ext E.ex) hns hnt (by omega) (by omega) rfl fun s3 w6 m6 E x6 h3 => ?_
    have hl6 := E.lt
    refine mulE E (ht.ext E.ex) (hs.ext E.ex) hnt hns (by omega) (by omega) rfl fun s4 w7 m7 E x7 h4 => ?_
    refine sameO (far h3 hl0 x7) h4 (Nat.mul_comm _ _) fun w8 e8 => cnd_f rfl ?_
    have E := E.ext e8
    have hl8 := E.lt
    have hxy := sz_mul (vl W64 l) (vl W64 m)
    have hyz := sz_mul (vl W64 m) (vl W64 n)
    refine mulE E (hs.ext E.ex) (ht.ext E.ex) hns hnt (by omega) (by omega) rfl fun s5 w9 m9 E x9 h5 => ?_
    have hl9 := E.lt
    refine mulE E h5.rd (hu.ext E.ex) (fun _ => nbk h5 hl8) hnu (by rw [dg_len]; omega) (by omega) rfl fun s6 w10 m10 E x10 h6 => ?_
    have hl10 := E.lt
    refine mulE E (ht.ext E.ex) (hu.ext E.ex) hnt hnu (by omega) (by omega) rfl fun s7 w11 m11 E x11 h7 => ?_
    have hl11 := E.lt
    refine mulE E (hs.ext E.ex) h7.rd hns (fun _ => nbk h7 hl10) (by omega) (by rw [dg_len]; omega) rfl fun s8 w12 m12 E x12 h8 => ?_
    refine sameO (far (far h6 hl9 x11) hl9 x12) h8 (by rw [vl_dg W2, vl_dg W2, Nat.mul_assoc]) fun w13 e13 => cnd_f rfl ?_
    have E := E.ext e13
    have hl13 := E.lt
    refine sqrE E (hs.ext E.ex) hns (by omega) fun s9 w14 m14 E x14 h9 => ?_
    have hl14 := E.lt
    refine mulE E (hs.ext E.ex) (hs.ext E.ex) hns hns (by omega) (by omega) rfl fun s10 w15 m15 E x15 h10 => ?_
    refine sameO (far h9 hl13 x15) h10 rfl fun w16 e16 => ⟨rfl, _, E.ext e16⟩
  rintro r w6 ⟨rfl, m6, E⟩
  refine cnd_f rfl ?_
  have he := E.en
  rw [he.is]
  rw [he.is] at E
  clear he
  refine nck_some ⟨some ⟨b, 0, none⟩, E.en.cell, nck_some ?_⟩
  refine c1 (meter_Muls E.tn) ?_
  rintro r w7 e7 rfl
  have E := E.ext e7
  refine nck_some ⟨some ⟨b, 0, none⟩, E.en.cell, nck_some ?_⟩
  refine cl_of (meter_Spend (n := 5) E.tn) (fun c hc => by subst hc; exact E.tn.V) ?_
  intro r' w8 x8 hpost
  obtain ⟨-, hm8⟩ := hpost
  rw [if_pos (by decide)] at hm8
  have E : Es w4 w8 _ e b _ tab := ⟨E.en.extX x8 E.ne, hm8, E.ne, E.old, E.ex.own x8 fun c hc => by subst hc; exact E.old⟩
  refine j1 (fun (r : Bool) w' => r = false ∧ ∃ m', Es w4 w' (some ⟨e, 0, none⟩) e b m' tab) ?_ ?_
  · refine nck_some ⟨some ⟨b, 0, none⟩, E.en.cell, nck_some ?_⟩
    refine c1 (meter_Muls E.tn) ?_
    rintro r w9 e9 rfl
    have E := E.ext e9
    refine bnd_i (cnd_f (by simp) ?_)
    refine nck_some ⟨some ⟨b, 0, none⟩, E.en.cell, nck_some ?_⟩
    refine c1 (meter_Muls E.tn) ?_
    rintro r w10 e10 rfl
    exact bnd_i ⟨by simp, _, E.ext e10⟩
  rintro r w9 ⟨rfl, m9, E⟩
  refine cnd_f rfl ?_
  refine nck_some ⟨some ⟨b, 0, none⟩, E.en.cell, nck_some ?_⟩
  refine cl_of (meter_Reset E.tn) (fun c hc => by subst hc; exact E.tn.V) ?_
  intro w10 x10 hm10
  have E : Es w4 w10 _ e b _ tab := ⟨E.en.extX x10 E.ne, hm10, E.ne, E.old, E.ex.own x10 fun c hc => by subst hc; exact E.old⟩
  refine j1 (fun (r : Bool) w' => r = true ∧ Ext none_ w4 w') ?_ ?_
  · refine nck_some ⟨some ⟨b, 0, none⟩, E.en.cell, nck_some ?_⟩
    refine c1 (meter_Muls E.tn) ?_
    rintro r w11 e11 rfl
    refine cnd_t rfl (wk5 fun w12 e12 => ⟨rfl, (E.ex.trans e11).trans e12⟩)
  rintro r w' ⟨rfl, f⟩
  exact rt1 (c := .bool) _ (e14.trans f) rfl
end Go.Proofs.Ythhohfgpaihngaa.Zg
end
