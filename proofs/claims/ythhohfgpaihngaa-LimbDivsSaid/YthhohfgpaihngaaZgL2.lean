/- A part of the proofs of this seat's laws: words, lemmas or contracts of its functions. -/
import Derived.Test.YthhohfgpaihngaaZgL1
import Derived.Test.YthhohfgpaihngaaZgPzigguratlaw02
set_option linter.unusedVariables false
set_option linter.unusedSimpArgs false
set_option linter.unnecessarySimpa false
namespace Go.Proofs.Ythhohfgpaihngaa.Zg
open Go.RowKit

theorem dg_row {l : List Nat} (h : Sm W64 l) (hl : ∀ x, l.getLast? = some x → x ≠ 0) : dg W64 (vl W64 l) = l := dg_of_last W2 h hl
theorem sm_of {l : List Nat} (h : l.all (fun x => Nat.blt x 18446744073709551616) = true) : Sm W64 l := fun x hx => by
  rw [List.all_eq_true] at h
  have := h x hx
  rwa [Nat.blt_eq] at this

theorem law02_wakes {w : TW} : Ct Pg F.zigguratlaw02_wakes [] w none_ [.one .bool] fun (r : Bool) _ => r = true := by
  refine Ct.zigguratlaw02_wakes ?_
  unfold Sh.zigguratlaw02_wakes
  refine nw_u64 (x := 1) rfl (by decide) fun b w1 h1 e1 => ?_
  refine c2 (limb_Sub (s := Sl.nil) (t := ⟨some ⟨b, 0, none⟩, 1, 1⟩) (x := 0) (y := 1) (Nt.nil _) ⟨_, h1.rd, by simp [vl_one]⟩ (by rw [sz0]; omega)) ?_
  rintro s ok w2 e2 ⟨rfl, h2⟩
  have e := e1.trans e2
  refine j1 (fun (r : Bool) w' => r = true ∧ Ext none_ w.here w') ?_ ?_
  · refine cnd_t (by decide) (cnd_t ?_ ?_)
    · have := h2.len
      rw [show 0 - 1 = 0 by rfl, sz0] at this
      simp [this]
    refine nw_u64 (x := 5) rfl (by decide) fun b1 w3 h3 e3 => nw_u64 (x := 7) rfl (by decide) fun b2 w4 h4 e4 => ?_
    refine nw_rs (ss := [⟨some ⟨b1, 0, none⟩, 1, 1⟩, ⟨some ⟨b2, 0, none⟩, 1, 1⟩]) (xs := [5, 7]) 2 rfl rfl (by decide) ?_ fun b3 w5 h5 e5 => ?_
    · intro i t ht
      match i with
      | 0 => simp at ht; subst ht; exact ⟨_, h3.rd.ext e4, by simp [vl_one]⟩
      | 1 => simp at ht; subst ht; exact ⟨_, h4.rd, by simp [vl_one]⟩
      | i + 2 => simp at ht
    refine c1 (limb_Join (s := ⟨some ⟨b3, 0, none⟩, 2, 2⟩) (xs := [5, 7]) h5 (by simp) ?_) ?_
    · intro t
      match t with
      | 0 => exact Nat.le_trans (sz_word (by decide)) (by decide)
      | 1 => exact Nat.le_trans (sz_word (by decide)) (by decide)
      | t + 2 => simp [sz0]
    intro s1 w6 e6 h6
    rw [show min (1 : Int).toNat 16384 = 1 by rfl, Nat.pow_one, On, dg_row (sm_of (by decide)) (by simp)] at h6
    refine nw_u64s (l := [5, 7]) 2 rfl (sm_of (by decide)) (by decide) fun b4 w7 h7 e7 => ?_
    refine c1 (keep_Same (s := s1) (t := ⟨some ⟨b4, 0, none⟩, 2, 2⟩) (l := [5, 7]) (h6.rd.ext e7) h7.rd) ?_
    rintro r w8 e8 rfl
    refine cnd_t rfl ?_
    refine c1 (limb_One (y := 3) (by decide)) ?_
    intro s2 w9 e9 h9
    refine nw_u64s (l := [3]) 1 rfl (sm_of (by decide)) (by decide) fun b5 w10 h10 e10 => ?_
    have e39 : dg W64 3 = [3] := by
      have := dg_row (l := [3]) (sm_of (by decide)) (by simp)
      rwa [vl_one] at this
    rw [On, e39] at h9
    refine c1 (keep_Same (s := s2) (t := ⟨some ⟨b5, 0, none⟩, 1, 1⟩) (l := [3]) (h9.rd.ext e10) h10.rd) ?_
    rintro r w11 e11 rfl
    exact ⟨rfl, ((((((((e.trans e3).trans e4).trans e5).trans e6).trans e7).trans e8).trans e9).trans e10).trans e11⟩
  rintro r w' ⟨rfl, e⟩
  exact rt1 (c := .bool) _ e rfl

theorem sz_two {N k : Nat} (h : N < 64 * k) : sz (2 ^ N) ≤ k := sz_pow (by rw [w_pow, ← Nat.pow_mul]; exact Nat.pow_lt_pow_right (by decide) h)

/-- A row of words. -/
def Arg (w : TW) (s : Sl) : Prop := ∃ l, Rd w s l

theorem law02_LimbLaws {w : TW} {a b : Sl} {y : Nat} {n : Int} (ha : Arg w a) (hb : Arg w b) (hy : y < W64) (_ : -9223372036854775808 ≤ n ∧ n ≤ 9223372036854775807) : Ct Pg F.zigguratlaw02_LimbLaws [a.v, b.v, .int .u64 y, .int .i64 n] w none_ [.one .bool] fun (r : Bool) _ => r = true := by
  obtain ⟨la, ha⟩ := ha
  obtain ⟨lb, hb⟩ := hb
  refine Ct.zigguratlaw02_LimbLaws ?_
  unfold Sh.zigguratlaw02_LimbLaws
  refine cutc (n := 40) ha.here rfl fun s w1 e1 hs _ => cutc (n := 40) (hb.here.ext e1) rfl fun t w2 e2 ht _ => ?_
  have hs := (hs.ext e2).nt
  have ht := ht.nt
  have hxs : sz (vl W64 (la.take 40)) ≤ 40 := Nat.le_trans (sz_vl (ha.sm.take _)) (by simp; omega)
  have hys : sz (vl W64 (lb.take 40)) ≤ 40 := Nat.le_trans (sz_vl (hb.sm.take _)) (by simp; omega)
  have e := e1.trans e2
  clear e1 e2
  generalize vl W64 (la.take 40) = x at *
  generalize vl W64 (lb.take 40) = z at *
  have hadd := sz_add x z
  refine c1 (limb_Add hs ht (by omega) (by omega)) ?_
  intro s2 w3 e3 h2
  have hs := hs.ext e3
  have ht := ht.ext e3
  refine c2 (limb_Sub h2.nt ht (by omega)) ?_
  rintro s3 ok w4 e4 ⟨rfl, h3⟩
  have hs := hs.ext e4
  have ht := ht.ext e4
  have h2 := h2.ext e4
  have e := (e.trans e3).trans e4
  clear e3 e4
  have cmp0 : ∀ p q : Nat, p = q → cmpN p q = 0 := fun p q h => cmpN_eq.2 h
  refine j1 (fun (r : Bool) w' => r = false ∧ Ext none_ w4 w') ?_ ?_
  · refine cnd_f (by simp) ?_
    refine c1 (limb_Cmp h3.nt hs) ?_
    rintro r w5 e5 rfl
    refine cnd_f (by rw [cmp0 _ _ (by omega)]; rfl) ?_
    have hs := hs.ext e5
    have ht := ht.ext e5
    have h2 := h2.ext e5
    refine c1 (limb_Add ht hs (by omega) (by omega)) ?_
    intro s4 w6 e6 h4
    refine c1 (limb_Cmp (h2.ext e6).nt h4.nt) ?_
    rintro r w7 e7 rfl
    refine cnd_f (by rw [cmp0 _ _ (by omega)]; rfl) ?_
    have e67 := e6.trans e7
    have hs := hs.ext e67
    have ht := ht.ext e67
    have h2 := h2.ext e67
    refine nw_rs (ss := [s, t, s]) (xs := [x, z, x]) 3 rfl rfl (by decide) ?_ fun b3 w8 h8 e8 => ?_
    · intro i t ht
      match i with
      | 0 => simp at ht; subst ht; exact hs
      | 1 => simp at ht; subst ht; assumption
      | 2 => simp at ht; subst ht; exact hs
      | i + 3 => simp at ht
    refine c1 (limb_Sum (s := ⟨some ⟨b3, 0, none⟩, 3, 3⟩) (xs := [x, z, x]) h8 (by simp) ?_) ?_
    · intro t
      match t with
      | 0 => simp; omega
      | 1 => simp; omega
      | 2 => simp; omega
      | t + 3 => simp [sz0]
    intro s5 w9 e9 h9
    have hs := (hs.ext e8).ext e9
    have h2 := (h2.ext e8).ext e9
    refine c1 (limb_Add h2.nt hs (by omega) (by omega)) ?_
    intro s6 w10 e10 h10
    refine c1 (limb_Cmp (h9.ext e10).nt h10.nt) ?_
    rintro r w11 e11 rfl
    refine ⟨by rw [cmp0 _ _ (by simp; omega)]; rfl, ((((e5.trans e67).trans e8).trans e9).trans e10).trans e11⟩
  rintro r w5 ⟨rfl, e5⟩
  refine cnd_f rfl ?_
  have hs := hs.ext e5
  have ht := ht.ext e5
  have e := e.trans e5
  clear e5
  have hzy : sz (z * y) ≤ 41 := Nat.le_trans (sz_mul _ _) (by have := sz_word hy; omega)
  have hxzy := sz_add x (z * y)
  refine c1 (limb_AddMul hs ht hy (by omega) (by omega)) ?_
  intro s7 w6 e6 h7
  have hs := hs.ext e6
  have ht := ht.ext e6
  refine c2 (limb_SubMul h7.nt ht hy (by omega) (by omega)) ?_
  rintro s8 ok w7 e7 ⟨rfl, h8⟩
  have hs := hs.ext e7
  refine c1 (keep_Within (by decide) (by decide)) ?_
  rintro r w8 e8 ⟨hr0, hr1⟩
  have hs := hs.ext e8
  have h8 := h8.ext e8
  have e := ((e.trans e6).trans e7).trans e8
  clear e6 e7 e8
  obtain ⟨N, rfl⟩ := Int.eq_ofNat_of_zero_le hr0
  have hr1 : N < 500 := Int.ofNat_lt.1 hr1
  have hN : min (N : Int).toNat 1048576 = N := by omega
  have hp : 0 < 2 ^ N := Nat.two_pow_pos N
  have hshl : ∀ x, sz x ≤ 41 → sz (x * 2 ^ N) ≤ 600 := fun x hx => by
    refine Nat.le_trans (sz_mul _ _) ?_
    have : sz (2 ^ N) ≤ 10 := sz_two (by omega)
    omega
  refine j1 (fun (r : Bool) w' => r = true ∧ Ext none_ w8 w') ?_ ?_
  · refine cnd_t (by simp) ?_
    refine c1 (limb_Cmp h8.nt hs) ?_
    rintro r w9 e9 rfl
    refine cnd_t (by rw [cmp0 _ _ (by omega)]; rfl) ?_
    have hs := hs.ext e9
    refine c1 (limb_Shl hs (by omega)) ?_
    intro s9 w10 e10 h9
    rw [hN] at h9
    refine c1 (limb_Shr h9.nt (by have := hshl x (by omega); omega)) ?_
    intro s10 w11 e11 h10
    rw [hN, Nat.mul_div_cancel _ hp] at h10
    have e := (e9.trans e10).trans e11
    have hs := (hs.ext e10).ext e11
    refine c1 (limb_Cmp h10.nt hs) ?_
    rintro r w12 e12 rfl
    refine cnd_t (by rw [cmp0 _ _ rfl]; rfl) ?_
    have hs := hs.ext e12
    refine c1 (limb_Shr hs (by omega)) ?_
    intro s11 w13 e13 h11
    rw [hN] at h11
    have hle : sz (x / 2 ^ N) ≤ 41 := by have := sz_mono (Nat.div_le_self x (2 ^ N)); omega
    refine c1 (limb_Shl h11.nt (by omega)) ?_
    intro s12 w14 e14 h12
    rw [hN] at h12
    have hs := (hs.ext e13).ext e14
    refine c1 (limb_Low hs (by omega)) ?_
    intro s13 w15 e15 h13
    rw [hN] at h13
    have hm := sz_mono (Nat.mod_le x (2 ^ N))
    refine c1 (limb_Add (h12.ext e15).nt h13.nt (by have := hshl _ hle; omega) (by omega)) ?_
    intro s14 w16 e16 h14
    have hs := (hs.ext e15).ext e16
    refine c1 (limb_Cmp h14.nt hs) ?_
    rintro r w17 e17 rfl
    refine cnd_t (by rw [cmp0 _ _ (by rw [Nat.mul_comm]; exact Nat.div_add_mod x (2 ^ N))]; rfl) ?_
    refine c1 law02_wakes ?_
    rintro r w18 e18 rfl
    exact ⟨rfl, ((((((e.trans e12).trans e13).trans e14).trans e15).trans e16).trans e17).trans e18⟩
  rintro r w9 ⟨rfl, e9⟩
  exact rt1 (c := .bool) _ (e.trans e9) rfl
end Go.Proofs.Ythhohfgpaihngaa.Zg
