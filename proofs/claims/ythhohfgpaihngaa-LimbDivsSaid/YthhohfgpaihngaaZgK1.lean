/- A part of the proofs of this seat's laws: words, lemmas or contracts of its functions. -/
import Derived.Test.YthhohfgpaihngaaZgW
import Derived.Test.YthhohfgpaihngaaZgPapi
import Derived.Test.YthhohfgpaihngaaZgPlimb
set_option linter.unusedVariables false
set_option linter.unusedSimpArgs false
set_option linter.unnecessarySimpa false
namespace Go.Proofs.Ythhohfgpaihngaa.Zg

theorem api_Nat_Len {w : TW} {s : Sl} {l : List Nat} (h : Rd w s l) : Ct Pg F.api_Nat_Len [s.v] w none_ [.one (.int .i64)] fun (n : Int) _ => n = (sz (vl W64 l) : Nat) := by
  refine Ct.api_Nat_Len ?_
  unfold Sh.api_Nat_Len
  have h := h.here
  have hl := h.len
  have hc := h.le
  refine jn (fun (k : Int) w' => Ext none_ w.here w' ∧ k = (sz (vl W64 l) : Nat)) ?_ ?_
  · refine lp1 (fun m (k : Int) w' => ∃ j : Nat, k = j ∧ m = j ∧ j ≤ l.length ∧ vl W64 (l.drop j) = 0 ∧ Ext none_ w.here w') l.length ⟨l.length, by rw [hl], rfl, Nat.le_refl _, by simp [vl], Ext.refl _ _⟩ ?_
    rintro m k w' ⟨j, rfl, rfl, hj, hz, hx⟩
    refine jn (fun (b : Bool) w'' => w'' = w' ∧ b = decide (∃ h : 0 < m, l[m - 1] = 0)) ?_ ?_
    · refine cnd_d (fun h0 => ?_) (fun h0 => ?_)
      · refine bnd_wi (by omega) (by omega) ((h.ext hx).idx (j := m - 1) (by omega) (by omega) ⟨rfl, ?_⟩)
        rw [Bool.eq_iff_iff]
        simp
        exact ⟨fun h => ⟨by omega, h⟩, fun ⟨_, h⟩ => h⟩
      · exact ⟨rfl, by simp; omega⟩
    · rintro b w'' ⟨rfl, rfl⟩
      refine cnd_d (fun h0 => ?_) (fun h0 => ?_)
      · obtain ⟨h1, h2⟩ := h0
        refine bnd_wi (by omega) (by omega) ⟨m - 1, by omega, m - 1, by omega, rfl, by omega, ?_, hx⟩
        have := vl_split W64 (l.drop (m - 1)) 1 (by simp; omega)
        rw [List.drop_drop, show m - 1 + 1 = m by omega, hz] at this
        rw [this, List.drop_eq_getElem_cons (by omega : m - 1 < l.length), List.take_succ_cons]
        simp [vl, h2]
      · refine ⟨hx, ?_⟩
        rw [sz, dg_len_of W2 h.sm hj hz (fun h1 h2 => h0 ⟨h1, h2⟩)]
        simp [hj]
  · rintro k w' ⟨hx, rfl⟩
    exact rt1 (c := .int .i64) _ hx rfl

theorem limb_trim {w : TW} {s : Sl} {l : List Nat} (h : Rd w s l) : Ct Pg F.limb_trim [s.v] w none_ [.one .slice] fun (s' : Sl) _ => s' = s.cut 0 (sz (vl W64 l)) 1 := by
  refine Ct.limb_trim ?_
  unfold Sh.limb_trim
  refine c1 (api_Nat_Len h.here) ?_
  rintro r w1 hx rfl
  have h1 := sz_vl h.sm
  have h2 := h.cap
  refine ⟨by omega, by omega, by omega, ?_⟩
  exact rt1 (c := .slice) _ hx (by simp)

/-- A call of limb's trim. -/
theorem tr {w : TW} {s : Sl} {x : Nat} {K : Sl → TW → Prop} (h : Nt w s x) (hK : ∀ s' w', Ext none_ w w' → Rd w' s' (dg W64 x) → K s' w') : cl Pg F.limb_trim [s.v] w [.one .slice] K := by
  obtain ⟨l, h, rfl⟩ := h
  refine c1 (limb_trim h) ?_
  rintro s' w' hx rfl
  exact hK _ _ hx (h.trim.ext hx)
theorem trO {w : TW} {B : Nat} {s : Sl} {l : List Nat} {K : Sl → TW → Prop} (h : Ow w B s l) (hK : ∀ s' w', Ext none_ w w' → On w' B s' (vl W64 l) → K s' w') : cl Pg F.limb_trim [s.v] w [.one .slice] K := by
  refine c1 (limb_trim h.rd) ?_
  rintro s' w' hx rfl
  exact hK _ _ hx (h.trim.ext hx)

theorem limb_within {w : TW} {n m : Int} (hm : 0 ≤ m) : Ct Pg F.limb_within [.int .i64 n, .int .i64 m] w none_ [.one (.int .i64)] fun (r : Int) _ => r = (min n.toNat m.toNat : Nat) := by
  refine Ct.limb_within ?_
  unfold Sh.limb_within
  refine bnd_i (bnd_i (rt1 (c := .int .i64) _ (Ext.refl _ _) ?_))
  split <;> split <;> omega

theorem limb_Norm {w : TW} {s : Sl} {x : Nat} (h : Nt w s x) (hn : sz x ≤ 1099511627776) : Ct Pg F.limb_Norm [s.v] w none_ [.one .slice] fun (s' : Sl) w' => On w' w.w.heap.size s' x := by
  refine Ct.limb_Norm ?_
  unfold Sh.limb_Norm
  refine tr h.here fun s1 w1 hx h1 => h1.copy hx.size hn fun s2 w2 h2 hx2 _ => ?_
  exact rt1 (c := .slice) _ (hx.trans hx2) h2.at

/-- -1, 0 or 1 -/
def cmpN (x y : Nat) : Int := if x < y then -1 else if x = y then 0 else 1

theorem cmpN_neg {x y : Nat} : cmpN x y < 0 ↔ x < y := by unfold cmpN; split <;> (try split) <;> omega
theorem cmpN_eq {x y : Nat} : cmpN x y = 0 ↔ x = y := by unfold cmpN; split <;> (try split) <;> omega
theorem cmpN_pos {x y : Nat} : 0 < cmpN x y ↔ y < x := by unfold cmpN; split <;> (try split) <;> omega

theorem limb_Cmp {w : TW} {s t : Sl} {x y : Nat} (hs : Nt w s x) (ht : Nt w t y) : Ct Pg F.limb_Cmp [s.v, t.v] w none_ [.one (.int .i64)] fun (r : Int) _ => r = cmpN x y := by
  obtain ⟨l, hs, rfl⟩ := hs
  obtain ⟨m, ht, rfl⟩ := ht
  refine Ct.limb_Cmp ?_
  unfold Sh.limb_Cmp
  refine c1 (api_Nat_Len hs.here) ?_
  rintro r w1 hx rfl
  refine c1 (api_Nat_Len (ht.here.ext hx)) ?_
  rintro r w2 hx2 rfl
  have hx := hx.trans hx2
  refine cnd_i (fun h0 => ?_) (fun h0 => ?_)
  · have h0 : sz (vl W64 l) ≠ sz (vl W64 m) := by intro h; simp [h] at h0
    refine cnd_d (fun h1 => ?_) (fun h1 => ?_)
    · refine rt1 (c := .int .i64) _ hx ?_
      rw [cmpN, if_pos]
      exact Nat.lt_of_not_le fun h => by have := sz_mono h; omega
    · refine rt1 (c := .int .i64) _ hx ?_
      have : ¬ vl W64 l ≤ vl W64 m := fun h => by have := sz_mono h; omega
      rw [cmpN, if_neg (by omega), if_neg (by omega)]
  · have h0 : sz (vl W64 l) = sz (vl W64 m) := by simp at h0; omega
    have hl := hs.len
    have hm := ht.len
    have hl1 := sz_vl hs.sm
    have hm1 := sz_vl ht.sm
    have hc := hs.le
    refine bnd_wi (by omega) (by omega) ?_
    have hzl := dg_vl_drop W2 hs.sm
    have hzm := dg_vl_drop W2 ht.sm
    refine jn (fun w' => Ext none_ w.here w' ∧ vl W64 l = vl W64 m) ?_ ?_
    · refine lp1 (fun k (i : Int) w' => ∃ j : Nat, i = j - 1 ∧ k = j ∧ j ≤ l.length ∧ j ≤ m.length ∧ vl W64 (l.drop j) = vl W64 (m.drop j) ∧ Ext none_ w.here w') (sz (vl W64 l)) ⟨sz (vl W64 l), rfl, rfl, by omega, by omega, ?_, hx⟩ ?_
      · rw [sz] at h0 hl1 ⊢
        rw [hzl, h0]
        exact hzm.symm
      · rintro k i w' ⟨j, rfl, rfl, hj, hj2, he, hx⟩
        refine cnd_d (fun h1 => ?_) (fun h1 => ?_)
        · have hs1 := (hs.here.ext hx).drew
          have ht1 := (ht.here.ext hx).drew
          have e1 : (k : Int) - 1 = (k - 1 : Nat) := by omega
          refine hs1.idx e1 (by omega) (ht1.idx e1 (by omega) ?_)
          have hsp1 := vl_split W64 (l.drop (k - 1)) 1 (by simp; omega)
          have hsp2 := vl_split W64 (m.drop (k - 1)) 1 (by simp; omega)
          rw [List.drop_drop, show k - 1 + 1 = k by omega] at hsp1 hsp2
          have ht1' : (l.drop (k - 1)).take 1 = [l[k - 1]] := by rw [List.drop_eq_getElem_cons (by omega : k - 1 < l.length), List.take_succ_cons]; rfl
          have ht2' : (m.drop (k - 1)).take 1 = [m[k - 1]] := by rw [List.drop_eq_getElem_cons (by omega : k - 1 < m.length), List.take_succ_cons]; rfl
          refine cnd_i (fun h2 => ?_) (fun h2 => ?_)
          · have h2 : l[k - 1] ≠ m[k - 1] := by simp at h2; omega
            refine hs1.drew.idx e1 (by omega) (ht1.drew.idx e1 (by omega) ?_)
            refine cnd_d (fun h3 => ?_) (fun h3 => ?_)
            · refine rt1 (c := .int .i64) _ hx.drew.drew ?_
              rw [cmpN, if_pos]
              exact vl_lt_of_top hs.sm (k := k - 1) (m := m) (by omega) (by omega) (by omega) (by rw [show k - 1 + 1 = k by omega, he]; exact Nat.le_refl _)
            · refine rt1 (c := .int .i64) _ hx.drew.drew ?_
              have := vl_lt_of_top ht.sm (k := k - 1) (m := l) (by omega) (by omega) (by omega) (by rw [show k - 1 + 1 = k by omega, he]; exact Nat.le_refl _)
              rw [cmpN, if_neg (by omega), if_neg (by omega)]
          · have h2 : l[k - 1] = m[k - 1] := by simp at h2; omega
            refine bnd_wi (by omega) (by omega) ⟨k - 1, by omega, k - 1, by omega, rfl, by omega, by omega, ?_, hx.drew⟩
            rw [hsp1, hsp2, ht1', ht2', h2, he]
        · refine ⟨hx, ?_⟩
          have : k = 0 := by omega
          subst this
          simpa using he
    · rintro w' ⟨hx, he⟩
      refine rt1 (c := .int .i64) _ hx ?_
      rw [cmpN, if_neg (by omega), if_pos he]
end Go.Proofs.Ythhohfgpaihngaa.Zg
