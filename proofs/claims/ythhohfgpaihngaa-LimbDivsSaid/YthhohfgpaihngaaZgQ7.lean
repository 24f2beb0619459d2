/- A part of the proofs of this seat's laws: words, lemmas or contracts of its functions. -/
import Derived.Test.YthhohfgpaihngaaZgQ6
set_option linter.unusedVariables false
set_option linter.unusedSimpArgs false
set_option linter.unnecessarySimpa false
namespace Go.Proofs.Ythhohfgpaihngaa.Zg
open Go.RowKit

theorem vl_getD {l : List Nat} (h : Sm B32 l) (k : Nat) : l.getD k 0 = vl B32 l / B32 ^ k % B32 := by
  rcases Nat.lt_or_ge k l.length with hk | hk
  · rw [← vl_drop_div32 h, List.drop_eq_getElem_cons hk, vl_cons, Nat.add_mul_mod_self_left, Nat.mod_eq_of_lt (h.get hk)]
    simp [hk]
  · rw [getD_past hk, ← vl_drop_div32 h, List.drop_of_length_le hk]
    rfl

theorem dm_step {x2 X y bt : Nat} (hy : 0 < y) (hbt : bt ≤ 1) (h : x2 = 2 * X + bt) : (y ≤ 2 * (X % y) + bt → x2 % y = 2 * (X % y) + bt - y ∧ x2 / y = 2 * (X / y) + 1) ∧ (¬ y ≤ 2 * (X % y) + bt → x2 % y = 2 * (X % y) + bt ∧ x2 / y = 2 * (X / y)) := by
  have h1 := Nat.div_add_mod X y
  have h2 := Nat.mod_lt X hy
  generalize X / y = Q at *
  generalize X % y = R at *
  have e1 : y * (2 * Q) = 2 * (y * Q) := by grind
  have e2 : y * (2 * Q + 1) = 2 * (y * Q) + y := by grind
  refine ⟨fun hle => ?_, fun hle => ?_⟩
  · have := (Nat.div_mod_unique (a := x2) (b := y) (c := 2 * R + bt - y) (d := 2 * Q + 1) hy).2 ⟨by omega, by omega⟩
    exact ⟨this.2, this.1⟩
  · have := (Nat.div_mod_unique (a := x2) (b := y) (c := 2 * R + bt) (d := 2 * Q) hy).2 ⟨by omega, by omega⟩
    exact ⟨this.2, this.1⟩

theorem ref_DivMod {w : TW} {s t : Sl} {x y : Nat} (hs : Dr w s x) (ht : Dr w t y) (hy : 0 < y) (hx : dz x ≤ 134217728) (hyd : dz y ≤ 134217728) : Ct Pg F.zigguratref02_DivMod [s.v, t.v] w none_ [.one .slice, .one .slice] fun (q r : Sl) w' => Dr w' q (x / y) ∧ Dr w' r (x % y) := by
  refine Ct.zigguratref02_DivMod ?_
  unfold Sh.zigguratref02_DivMod
  have ls := hs.len
  have lt := ht.len
  refine c1 (ref_Cmp hs.here ht.here) ?_
  rintro r w1 e1 rfl
  have hs := hs.here.ext e1
  have ht := ht.here.ext e1
  refine cnd_d (fun h0 => ?_) (fun h0 => ?_)
  · have h0 : x < y := cmpN_neg.1 h0
    refine rt2 (c := .slice) (d := .slice) Sl.nil s e1 ?_
    rw [Nat.div_eq_of_lt h0, Nat.mod_eq_of_lt h0]
    exact ⟨(Dn.nil _ 0).dr, Rd.at_ hs⟩
  clear h0
  refine bnd_wi (by omega) (by omega) (mk_u64 (N := dz y + 1) (by omega) (by omega) fun r w2 hr _ e2 _ => mk_u64 (N := dz x) (by omega) (by omega) fun q w3 hq _ e3 _ => ?_)
  have br := fun c hc => (Ow.from_ hr c hc)
  refine c1 (ref_Bits ((hs.ext e2).ext e3) (by omega)) ?_
  rintro n w4 e4 ⟨n, rfl, hn, hn2⟩
  have hr := (hr.ext e3).ext e4
  have hq := hq.ext e4
  have f4 := (e2.trans e3).trans e4
  refine bnd_wi (by omega) (by omega) ?_
  have hold : ∀ {u : Sl} {z : Nat}, Dr w1 u z → ∀ c, u.blk = some c → c < w1.w.heap.size ∨ z = 0 := fun {u z} hu c hc => by
    rcases Nat.eq_zero_or_pos z with h | h
    · exact .inr h
    · left
      have hne : (dg B32 z).map U ≠ [] := by
        simp only [ne_eq, List.map_eq_nil_iff]
        exact fun e => by have := (dg_nil_iff b2).1 e; omega
      obtain ⟨b, o, hp, _, hcell⟩ := Rd.rv hu |>.2.2.2 hne
      have : c = b := by simp [Sl.blk, hp] at hc; omega
      subst this
      obtain ⟨v, hv⟩ : ∃ v, ((dg B32 z).map U)[0]? = some v := ⟨_, List.getElem?_eq_getElem (List.length_pos_iff.2 hne)⟩
      exact World.block_lt_of_cell? w1.w _ (hcell 0 v hv)
  refine j0 (fun w5 => ∃ R Q, Ow w5 w1.w.heap.size r R ∧ Sm B32 R ∧ vl B32 R = x % y ∧ Ow w5 w2.w.heap.size q Q ∧ Sm B32 Q ∧ vl B32 Q = x / y ∧ Ext none_ w1 w5) ?_ ?_
  · refine lp1 (fun m (i : Int) w5 => ∃ (j : Nat) (R Q : List Nat), i = j - 1 ∧ m = j ∧ j ≤ n ∧ Ow w5 w1.w.heap.size r R ∧ Sm B32 R ∧ R.length = dz y + 1 ∧ vl B32 R = x / 2 ^ j % y ∧ Ow w5 w2.w.heap.size q Q ∧ Sm B32 Q ∧ Q.length = dz x ∧ vl B32 Q = x / 2 ^ j / y * 2 ^ j ∧ Ext none_ w1 w5) n ⟨n, _, _, by omega, rfl, Nat.le_refl _, hr, Sm.zeros (by decide) _, by simp, by rw [vl_zeros, Nat.div_eq_of_lt hn, Nat.zero_mod], hq, Sm.zeros (by decide) _, by simp, by rw [vl_zeros, Nat.div_eq_of_lt hn, Nat.zero_div, Nat.zero_mul], f4⟩ ?_
    rintro m i w5 ⟨j, R, Q, rfl, rfl, hj, hr, hrs, hrl, hrv, hq, hqs, hql, hqv, f5⟩
    refine cnd_d (fun h => ?_) (fun h => ?_)
    · obtain ⟨i, rfl⟩ : ∃ i, m = i + 1 := ⟨m - 1, by omega⟩
      have ei : ((i + 1 : Nat) : Int) - 1 = (i : Nat) := by omega
      rw [ei]
      refine c1 (ref_bit (hs.ext f5) (by omega) (by omega)) ?_
      rintro bt w6 e6 rfl
      have hr := hr.ext e6
      have hq := hq.ext e6
      have f6 := f5.trans e6
      have hbit : x / 2 ^ i % 2 ≤ 1 := by omega
      have hxi : x / 2 ^ i = 2 * (x / 2 ^ (i + 1)) + x / 2 ^ i % 2 := by
        have h1 : x / 2 ^ (i + 1) = x / 2 ^ i / 2 := by rw [Nat.div_div_eq_div_mul, Nat.pow_succ]
        omega
      generalize x / 2 ^ i % 2 = bt at *
      generalize hX : x / 2 ^ (i + 1) = X at *
      have hXd := Nat.div_add_mod X y
      have hXm := Nat.mod_lt X hy
      refine cl_of (ref_twice (b := bt) hr hrs hrl (ht.ext f6) (by omega) hbit (by omega) fun c hc h => ?_) (fun c hc => hr.ow.2 c hc) ?_
      · have h1 := hr.blk_le c h
        rcases hold ht c hc with h2 | h2 <;> omega
      intro ok w7 x7 hpost
      obtain ⟨hok, R', hr7, hrs7, hrl7, hrv7⟩ := hpost
      subst hok
      have hq7 := hq.extX x7 fun c hc h => by
        have h1 := (hr.from_ c h)
        have h2 := hq.blk_le c hc
        have h3 := br c h
        omega
      have f7 := f6.own x7 hr.blk_le
      rw [hrv] at hrv7 ⊢
      have hpi : 2 ^ (i + 1) = 2 ^ i * 2 := Nat.pow_succ 2 i
      refine j0 (fun w8 => ∃ R Q : List Nat, Ow w8 w1.w.heap.size r R ∧ Sm B32 R ∧ R.length = dz y + 1 ∧ vl B32 R = x / 2 ^ i % y ∧ Ow w8 w2.w.heap.size q Q ∧ Sm B32 Q ∧ Q.length = dz x ∧ vl B32 Q = x / 2 ^ i / y * 2 ^ i ∧ Ext none_ w1 w8) ?_ ?_
      · refine cnd_d (fun hle => ?_) (fun hle => ?_)
        · have hmod := (dm_step hy hbit hxi).1 hle
          rw [if_pos hle, ← hmod.1] at hrv7
          refine divNi (x := i) (y := 32) rfl rfl (by omega) (by decide) ?_
          have hkQ : i / 32 < Q.length := by omega
          refine hq7.rd.ix rfl hkQ ?_
          have hg := vl_getD hqs (i / 32)
          have hset := vl_set (b := B32) hkQ
          rw [show Q[i / 32] = Q.getD (i / 32) 0 by simp [hkQ]] at hset
          have hvlt := hqs.getD (by decide) (i / 32)
          obtain ⟨k, hk⟩ : ∃ k, k = i % 32 := ⟨_, rfl⟩
          have hk32 : k < 32 := by omega
          have hBk : B32 = 2 ^ (k + 1) * 2 ^ (31 - k) := by rw [← Nat.pow_add, show B32 = 2 ^ 32 by decide]; congr 1; omega
          have h2i : 2 ^ i = B32 ^ (i / 32) * 2 ^ k := by rw [hk]; exact two_split32 i
          have hdvd : 2 ^ (k + 1) ∣ Q.getD (i / 32) 0 := by
            rw [hg, hqv, hpi, h2i]
            have h3 : X / y * (B32 ^ (i / 32) * 2 ^ k * 2) / B32 ^ (i / 32) = X / y * 2 ^ (k + 1) := by
              rw [show X / y * (B32 ^ (i / 32) * 2 ^ k * 2) = B32 ^ (i / 32) * (X / y * 2 ^ (k + 1)) by rw [Nat.pow_succ]; grind]
              exact Nat.mul_div_cancel_left _ (Nat.pow_pos (by decide))
            rw [h3]
            exact (Nat.dvd_mod_iff ⟨_, hBk⟩).2 (Nat.dvd_mul_left _ _)
          have h2k : 2 ^ k < 2 ^ (k + 1) := Nat.pow_lt_pow_right (by decide) (by omega)
          have h2k32 : 2 ^ k < B32 := by rw [show B32 = 2 ^ 32 by decide]; exact Nat.pow_lt_pow_right (by decide) hk32
          have hnew : Q.getD (i / 32) 0 + 2 ^ k < B32 := by
            obtain ⟨z, hz⟩ := hdvd
            rw [hz] at hvlt ⊢
            have h4 : z < 2 ^ (31 - k) := Nat.lt_of_mul_lt_mul_left (by rw [← hBk]; exact hvlt)
            have h5 := Nat.mul_le_mul_left (2 ^ (k + 1)) h4
            rw [← hBk, Nat.mul_succ] at h5
            omega
          generalize Q.getD (i / 32) 0 = v at *
          refine remN (x := i) (y := 32) rfl rfl (by decide) (bnd_wu' (y := i % 32) rfl (by rw [w64]; omega) ?_)
          rw [← hk]
          refine shlN (x := 1) (n := k) rfl rfl (by omega) ?_
          rw [Nat.one_mul, Nat.mod_eq_of_lt (bw h2k32)]
          refine bnd_plus (k := k + 1) rfl rfl (bw hvlt) (bw h2k32) hdvd h2k ?_
          refine hq7.store (j := i / 32) rfl hkQ (bw hnew) rfl fun w8 hq8 e8 => ?_
          have hr8 := hr7.extX e8 fun c hc h => by
            have h1 := br c hc
            have h2 := hq7.blk_le c h
            omega
          refine ⟨R', _, hr8, hrs7, hrl7, hrv7, hq8, hqs.set _ hnew, by simp [hql], ?_, f7.own e8 fun b hb => Nat.le_trans e2.size (hq7.blk_le b hb)⟩
          have hset := hset (v + 2 ^ k)
          rw [hqv, hpi] at hset
          rw [hmod.2, Nat.add_mul, Nat.one_mul, h2i]
          rw [h2i] at hset
          have h6 : B32 ^ (i / 32) * (v + 2 ^ k) = B32 ^ (i / 32) * v + B32 ^ (i / 32) * 2 ^ k := Nat.mul_add _ _ _
          have h7 : X / y * (B32 ^ (i / 32) * 2 ^ k * 2) = 2 * (X / y) * (B32 ^ (i / 32) * 2 ^ k) := by grind
          omega
        · have hmod := (dm_step hy hbit hxi).2 hle
          rw [if_neg hle, ← hmod.1] at hrv7
          refine ⟨R', Q, hr7, hrs7, hrl7, hrv7, hq7, hqs, hql, ?_, f7⟩
          rw [hqv, hmod.2, hpi]
          grind
      rintro w8 ⟨R, Q, a1, a2, a3, a4, a5, a6, a7, a8, a9⟩
      exact bnd_wi (by omega) (by omega) ⟨i, by omega, i, R, Q, by omega, rfl, by omega, a1, a2, a3, a4, a5, a6, a7, a8, a9⟩
    · have : m = 0 := by omega
      subst this
      rw [Nat.pow_zero, Nat.div_one] at hrv hqv
      exact ⟨R, Q, hr, hrs, hrv, hq, hqs, by rw [hqv, Nat.mul_one], f5⟩
  rintro w5 ⟨R, Q, hr, hrs, hrv, hq, hqs, hqv, f5⟩
  refine nm hq hqs fun s2 w6 e6 h6 => nm (hr.ext e6) hrs fun s3 w7 e7 h7 => ?_
  rw [hqv] at h6
  rw [hrv] at h7
  exact rt2 (c := .slice) (d := .slice) _ _ (((e1.trans f5).trans e6).trans e7) ⟨Rd.at_ (h6.ext e7).dr, Rd.at_ h7.dr⟩
end Go.Proofs.Ythhohfgpaihngaa.Zg
