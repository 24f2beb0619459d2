/- A part of the proofs of this seat's laws: words, lemmas or contracts of its functions. -/
import Derived.Test.YtdkhilllajdnpaaGKA
import Derived.Test.YtdkhilllajdnpaaGP
set_option linter.unusedVariables false
set_option linter.unusedSimpArgs false
set_option linter.unnecessarySimpa false
section
namespace Go.Proofs.Ytdkhilllajdnpaa.Zg
open Go.RowKit

theorem toom_New {t : HL I11} {w : TW} : Ct Pg F.toom_New [.agg (encs I11 t).toArray] w none_ [.one .ptr] fun (p : Option Addr) w' => ∃ d k e b tab, Chain w' p [d, k, e] b ∧ w.w.heap.size ≤ b ∧ (∀ c ∈ [d, k, e], w.w.heap.size ≤ c ∧ c ≠ b) ∧ TabOk tab ∧ Tn w' b 0 0 0 tab := by
  refine Ct.toom_New ?_
  unfold Sh.toom_New
  intro w1 e1
  refine c1 (kara_New (t := t)) ?_
  rintro p w2 e2 ⟨k, e, b, tab, hen, hbt, hne, htab, htn⟩
  intro c w3 hn
  have hlt := htn.lt
  have hc : c = w2.w.heap.size := hn.at_
  have hle : w.w.heap.size ≤ w1.w.heap.size := e1.size
  have hle2 := e2.size
  refine rt1 (c := .ptr) (some ⟨c, 0, none⟩) ((e1.trans e2).trans (hn.ext _)) ⟨c, k, e, b, tab, ?_, by omega, ?_, htab, (htn.ext (hn.ext _)).at⟩
  · refine ⟨rfl, fun hV => ?_, p, ?_, (hen.ext (hn.ext _)).at⟩
    · have hV : w3.V c := hV
      rw [hn.V] at hV
      have := w2.lt _ hV
      omega
    · show w3.w.cell? _ = _
      rw [cell_of_row w3.w c 0 _ T.toom_Engine (0, 0) hn.heap]
      rfl
  · intro x hx
    rcases List.mem_cons.1 hx with rfl | hx
    · exact ⟨by omega, by omega⟩
    · have := hne x hx
      exact ⟨by omega, this.2⟩

theorem law11_from {w : TW} {s : Sl} {l : List Nat} (hs : Rd w s l) (hn : l.length ≤ 1048576) : Ct Pg F.zigguratlaw11_from [s.v] w none_ [.one .slice] fun (s' : Sl) w' => Dn w' w.w.heap.size s' (vl W64 l) := by
  refine Ct.zigguratlaw11_from ?_
  unfold Sh.zigguratlaw11_from
  have := hs.len
  refine c1 (ref_From hs.here.nt (by omega)) ?_
  intro s' w' e h
  exact rt1 (c := .slice) _ e h.at

theorem law11_wakes {w : TW} : Ct Pg F.zigguratlaw11_wakes [] w none_ [.one .bool] fun (r : Bool) _ => r = true := by
  refine Ct.zigguratlaw11_wakes ?_
  unfold Sh.zigguratlaw11_wakes
  refine nw_u64 (x := 12) rfl (by decide) fun b1 w1 h1 e1 => ?_
  have n1 : Nt w1 ⟨some ⟨b1, 0, none⟩, 1, 1⟩ 12 := by simpa [vl] using h1.rd.nt
  refine c2 (toom_Third (a := ⟨some ⟨b1, 0, none⟩, 1, 1⟩) n1 (Nat.le_trans (sz_word (by decide)) (by decide))) ?_
  rintro s ok w2 e2 ⟨h2, rfl⟩
  refine nw_u64 (x := 13) rfl (by decide) fun b2 w3 h3 e3 => ?_
  have n3 : Nt w3 ⟨some ⟨b2, 0, none⟩, 1, 1⟩ 13 := by simpa [vl] using h3.rd.nt
  refine c2 (toom_Third (a := ⟨some ⟨b2, 0, none⟩, 1, 1⟩) n3 (Nat.le_trans (sz_word (by decide)) (by decide))) ?_
  rintro s3 ok w4 e4 ⟨-, rfl⟩
  refine j1 (fun (r : Bool) w' => r = true ∧ Ext none_ w.here w') ?_ ?_
  · refine cnd_t rfl (cnd_t rfl (nw_u64 (x := 4) rfl (by decide) fun b3 w5 h5 e5 => ?_))
    have h2 := ((On.ext h2 e3).ext e4).ext e5
    have hrow : dg W64 (if 12 % 3 = 0 then 12 / 3 else 0) = [4] := dg_row (l := [4]) (sm_of (by decide)) (by simp)
    rw [On, hrow] at h2
    refine c1 (keep_Same (s := s) (t := ⟨some ⟨b3, 0, none⟩, 1, 1⟩) (l := [4]) h2.rd h5.rd) ?_
    rintro r w6 e6 rfl
    refine cnd_t rfl (c1 (toom_New (t := ((0 : Int), (0 : Int), (0 : Int), (0 : Int), (0 : Int), (0 : Int), (0 : Int), (0 : Int), (0 : Int), (0 : Int), (0 : Int), ()))) ?_)
    rintro p w7 e7 ⟨d, k, e, b, tab, hc, -⟩
    obtain ⟨hp, -⟩ := hc
    exact ⟨by rw [hp]; rfl, (((((e1.trans e2).trans e3).trans e4).trans e5).trans e6).trans e7⟩
  rintro r w' ⟨rfl, f⟩
  exact rt1 (c := .bool) _ f rfl
theorem wk11 {w : TW} {K : Bool → TW → Prop} (hK : ∀ w', Ext none_ w w' → K true w') : cl Pg F.zigguratlaw11_wakes [] w [.one .bool] K := by
  refine c1 law11_wakes ?_
  rintro r w' e rfl
  exact hK w' e

theorem Dr.zero {w : TW} {s : Sl} {x : Nat} (h : Dr w s x) : (s.n = 0 ↔ x = 0) := by
  rw [h.len]
  exact dg_length_zero (by decide)
theorem ref_Zero {w : TW} {s : Sl} {x : Nat} (h : Dr w s x) : Ct Pg F.zigguratref02_Zero [s.v] w none_ [.one .bool] fun (r : Bool) _ => r = decide (x = 0) := by
  refine Ct.zigguratref02_Zero ?_
  unfold Sh.zigguratref02_Zero
  refine rt1 (c := .bool) _ (Ext.refl _ _) ?_
  have := h.zero
  by_cases hx : x = 0
  · rw [this.2 hx]; simp [hx]
  · have : s.n ≠ 0 := fun h => hx (this.1 h)
    simp [hx]; omega

theorem law11_ToomThirds {w : TW} {a : Sl} (ha : Arg w a) (thrice : Bool) : Ct Pg F.zigguratlaw11_ToomThirds [a.v, .bool thrice] w none_ [.one .bool] fun (r : Bool) _ => r = true := by
  obtain ⟨la, ha⟩ := ha
  refine Ct.zigguratlaw11_ToomThirds ?_
  unfold Sh.zigguratlaw11_ToomThirds
  refine cutc (n := 30) ha.here rfl fun s w1 e1 hs _ => ?_
  have hx := sz_vl hs.sm
  have hla : (la.take 30).length ≤ 30 := by simp; omega
  generalize la.take 30 = l at *
  have dx := dz_of_sz hx
  refine c1 (law11_from hs (by omega)) fun s1 w2 e2 h1 => ?_
  generalize vl W64 l = x at *
  have e12 := e1.trans e2
  have d3 := dz_of_sz (sz_word (x := 3) (by decide))
  refine j1 (fun (n : Sl) w5 => ∃ y, Dr w5 n y ∧ dz y ≤ 62 ∧ sz y ≤ 62 ∧ Ext none_ w.here w5) ?_ ?_
  · refine cnd_i (fun h => ?_) (fun h => ⟨x, h1.dr, by omega, by omega, e12⟩)
    refine c1 (ref_Small (y := 3) (by decide)) fun s2 w3 e3 h2 => ?_
    have hdz := dz_mul x 3
    have hsz := sz_mul x 3
    have h3' := sz_word (x := 3) (by decide)
    refine c1 (ref_Mul (h1.ext e3).dr h2.dr (by omega) (by omega)) fun s3 w4 e4 h3 => ⟨x * 3, h3.dr, by omega, by omega, (e12.trans e3).trans e4⟩
  rintro n w5 ⟨y, hn, dy, sy, e5⟩
  refine c1 (ref_Small (y := 3) (by decide)) fun s4 w6 e6 h4 => ?_
  refine c2 (ref_DivMod (hn.ext e6) h4.dr (by decide) (by omega) (by omega)) ?_
  rintro s5 s6 w7 e7 ⟨hq, hr⟩
  have e67 := e6.trans e7
  refine c1 (ref_To (hn.ext e67) (by omega)) fun s7 w8 e8 h7 => ?_
  have hdl : (dg W64 y).length ≤ 62 := by rw [dg_len]; exact sy
  refine c1 (keep_Lend h7.rd (by omega)) fun s8 w9 e9 L => ?_
  have hLn : Nt w9 s8 y := by have := L.nt; rwa [vl_dg W2] at this
  refine c2 (toom_Third hLn (by omega)) ?_
  rintro s9 ok w10 e10 ⟨h9, rfl⟩
  have e810 := (e8.trans e9).trans e10
  refine c1 (ref_Zero (hr.ext e810)) ?_
  rintro z w11 e11 rfl
  have h7 := ((Ow.rd h7).ext e9).ext (e10.trans e11)
  have L := L.ext (e10.trans e11)
  have h9 := On.ext h9 e11
  have f := ((e5.trans e67).trans e810).trans e11
  by_cases hy : y % 3 = 0
  · refine cnd_f (by simp [hy]) ?_
    refine j1 (fun (r : Bool) w' => r = true ∧ Ext none_ w.here w') ?_ ?_
    · refine cnd_t (by simp [hy]) ?_
      rw [if_pos hy] at h9
      have := dz_mono (Nat.div_le_self y 3)
      refine sm ((hq.ext e810).ext e11) h9 (by omega) rfl fun w12 e12 => cnd_t rfl (tact L h7 e12 (by omega) fun w13 e13 => cnd_t rfl (wk11 fun w14 e14 => ⟨rfl, (f.trans e13).trans e14⟩))
    rintro r w' ⟨rfl, f⟩
    exact rt1 (c := .bool) _ f rfl
  · refine cnd_t (by simp [hy]) ?_
    refine j1 (fun (r : Bool) w' => r = true ∧ Ext none_ w.here w') ?_ ?_
    · rw [if_neg hy] at h9
      have hlen := On.len h9
      rw [sz0] at hlen
      refine cnd_t (by simp [hy]) (cnd_t (by simp [hlen]) (tact L h7 (Ext.refl _ _) (by omega) fun w13 e13 => cnd_t rfl (wk11 fun w14 e14 => ⟨rfl, (f.trans e13).trans e14⟩)))
    rintro r w' ⟨rfl, f⟩
    exact rt1 (c := .bool) _ f rfl
end Go.Proofs.Ytdkhilllajdnpaa.Zg
end
