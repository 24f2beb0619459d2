/- A part of the proofs of this seat's laws: words, lemmas or contracts of its functions. -/
import Derived.Test.YtjhfalgmgagdhaaGreatDoorGA
import Derived.Test.YtjhfalgmgagdhaaGreatDoorGMA
import Derived.Test.YtjhfalgmgagdhaaGreatDoorGMB
import Derived.Test.YtjhfalgmgagdhaaGreatDoorGMD
import Derived.Test.YtjhfalgmgagdhaaGreatDoorGME
import Derived.Test.YtjhfalgmgagdhaaGreatDoorGKA
import Derived.Test.YtjhfalgmgagdhaaGreatDoorGKE
import Derived.Test.YtjhfalgmgagdhaaGreatDoorGIA
import Derived.Test.YtjhfalgmgagdhaaGreatDoorGKC
import Derived.Test.YtjhfalgmgagdhaaGreatDoorGHA
import Derived.Test.YtjhfalgmgagdhaaGreatDoorGB
import Derived.Test.YtjhfalgmgagdhaaGreatDoorGIB
import Derived.Test.YtjhfalgmgagdhaaGreatDoorGJA
import Derived.Test.YtjhfalgmgagdhaaGreatDoorGJB
import Derived.Test.YtjhfalgmgagdhaaGreatDoorGJC
import Derived.Test.YtjhfalgmgagdhaaGreatDoorGHB
import Derived.Test.YtjhfalgmgagdhaaGreatDoorGHD
import Derived.Test.YtjhfalgmgagdhaaGreatDoorGHE
import Derived.Test.YtjhfalgmgagdhaaGreatDoorGHF
import Derived.Test.YtjhfalgmgagdhaaGreatDoorGK
import Derived.Test.YtjhfalgmgagdhaaGreatDoorGQ
import Derived.Test.YtjhfalgmgagdhaaGreatDoorGMC
import Derived.Test.YtjhfalgmgagdhaaGreatDoorGP
import Derived.Test.YtjhfalgmgagdhaaGreatDoorGP1
import Derived.Test.YtjhfalgmgagdhaaGreatDoorGP2
import Derived.Test.YtjhfalgmgagdhaaGreatDoorGP3
import Derived.Test.YtjhfalgmgagdhaaGreatDoorGP4
import Derived.Test.YtjhfalgmgagdhaaGreatDoorGS
import Derived.Test.YtjhfalgmgagdhaaGreatDoorGC
set_option linter.unusedVariables false
set_option linter.unusedSimpArgs false
set_option linter.unnecessarySimpa false
section
namespace Go.Proofs.YtjhfalgmgagdhaaGreatDoor.Zg
open Go.RowKit
theorem fm_take {α : Type} {f : α → List Value} {k : Nat} (hf : ∀ x, (f x).length = k) : ∀ (l : List α) (n : Nat), (l.flatMap f).take (k * n) = (l.take n).flatMap f
 | l, 0 => by simp
 | [], n + 1 => by simp
 | x :: l, n + 1 => by
  rw [List.flatMap_cons, List.take_succ_cons, List.flatMap_cons, ← fm_take hf l n, List.take_append, hf, List.take_of_length_le (by rw [hf, Nat.mul_add]; omega), show k * (n + 1) - k = k * n by rw [Nat.mul_add]; omega]
theorem fm_drop {α : Type} {f : α → List Value} {k : Nat} (hf : ∀ x, (f x).length = k) : ∀ (l : List α) (n : Nat), (l.flatMap f).drop (k * n) = (l.drop n).flatMap f
 | l, 0 => by simp
 | [], n + 1 => by simp
 | x :: l, n + 1 => by
  rw [List.flatMap_cons, List.drop_succ_cons, ← fm_drop hf l n, List.drop_append, hf, List.drop_of_length_le (by rw [hf, Nat.mul_add]; omega), show k * (n + 1) - k = k * n by rw [Nat.mul_add]; omega, List.nil_append]
theorem Rdv.cutk {α : Type} {f : α → List Value} {k : Nat} (hf : ∀ x, (f x).length = k) (hk : 0 < k) {w : TW} {s : Sl} {ts : List α} (h : Rdv w k s (ts.flatMap f)) {lo hi : Nat} (h1 : lo ≤ hi) (h2 : hi ≤ ts.length) : Rdv w k (s.cut lo hi k) (((ts.take hi).drop lo).flatMap f) := by
 have hl := h.lenk hf hk
 obtain ⟨h3, h4, h5, h6⟩ := h
 refine ⟨by rw [fm_len hf, Nat.mul_comm, show ((ts.take hi).drop lo).length = hi - lo by simp; omega]; rfl, by simp only [Sl.cut]; omega, by simp only [Sl.cut]; omega, fun hne => ?_⟩
 have hlt : lo < hi := by
  rcases Nat.lt_or_ge lo hi with h | h
  ·exact h
  ·exfalso; apply hne; rw [List.drop_of_length_le (by simp; omega)]; rfl
 obtain ⟨b, o, hp, hV, hcell⟩ := h6 (fun e => by have := congrArg List.length e; rw [fm_len hf, List.length_nil] at this; have := Nat.mul_pos hk (show 0 < ts.length by omega); omega)
 refine ⟨b, o + k * lo, ?_, hV, fun j v hj => ?_⟩
 ·simp only [Sl.cut]
  rw [if_neg (by omega), hp]
  simp only [Option.map_some, addp, Nat.mul_comm]
 ·rw [Nat.add_assoc]
  refine hcell (k * lo + j) v ?_
  rw [← fm_drop hf, ← fm_take hf, List.getElem?_drop, List.getElem?_take] at hj
  split at hj
  ·exact hj
  ·cases hj
def prs (ls : List (List Nat)) (k n : Nat) : List L2t := (List.range (min k (ls.length / 2))).map fun j => ((ls.getD (2 * j) []).take n, (ls.getD (2 * j + 1) []).take n)
theorem prs_few {ls : List (List Nat)} {k n : Nat} (hk : k ≤ 16) (hn : n ≤ 8) : Few2 (prs ls k n) ∧ ∀ i, ((prs ls k n).getD i ([], [])).1.length ≤ n ∧ ((prs ls k n).getD i ([], [])).2.length ≤ n := by
 have key : ∀ i, ((prs ls k n).getD i ([], [])).1.length ≤ n ∧ ((prs ls k n).getD i ([], [])).2.length ≤ n := fun i => by
  unfold prs
  rw [List.getD_eq_getElem?_getD, List.getElem?_map]
  cases (List.range (min k (ls.length / 2)))[i]? with
  | none => simp
  | some j => simp; omega
 exact ⟨⟨by simp [prs]; omega, fun i => ⟨Nat.le_trans (key i).1 hn, Nat.le_trans (key i).2 hn⟩⟩, key⟩
set_option maxHeartbeats 400000 in
theorem law22_pairs {w : TW} {l : Sl} {ls : List (List Nat)} {k n : Nat} (hl : Rl w l ls) (hk : k ≤ 16) :
  Ct Pg F.zigguratlaw22_pairs [l.v, .int .i64 (k : Int), .int .i64 (n : Int)] w none_ [.one .slice] fun (s : Sl) w' => Rq2 w' s (prs ls k n) := by
 refine Ct.zigguratlaw22_pairs ?_
 unfold Sh.zigguratlaw22_pairs
 have nl := hl.len
 have hl := hl.here
 rw [nl]
 obtain ⟨N, hN⟩ : ∃ N, N = min k (ls.length / 2) := ⟨_, rfl⟩
 refine j1 (fun (o : Sl) w7 => Rq2 w7 o (prs ls k n) ∧ Ext none_ w.here w7) ?_ ?_
 ·refine lp2 (fun M (o : Sl) (i : Int) w1 => ∃ (j : Nat) (ts : List S2t), i = ((2 * j : Nat) : Int) ∧ M = N - j ∧ j ≤ N ∧ ts.length = j ∧ Own w1 w.here.w.heap.size T.api_Pair 2 o (ts.flatMap p2v) ∧ (∀ q, ∀ h : q < ts.length, Rd w.here ts[q].1 ((ls.getD (2 * q) []).take n) ∧ Rd w.here ts[q].2 ((ls.getD (2 * q + 1) []).take n)) ∧ Ext none_ w.here w1) N ⟨0, [], rfl, by omega, by omega, rfl, Own.nilk _ _ _, fun q h => (by simp at h), Ext.refl _ _⟩ ?_
  rintro M o i w1 ⟨j, ts, rfl, rfl, hj, hts, ho, hr, e1⟩
  have hon := ho.rdv.lenk p2v_len (by decide)
  refine j1 (fun (b : Bool) w2 => w2 = w1 ∧ b = decide (j < N)) ?_ ?_
  ·refine bnd_wi (by omega) (by omega) ?_
   refine cnd_d (fun h => ?_) (fun h => ?_)
   ·refine ⟨rfl, ?_⟩
    rw [Bool.eq_iff_iff, decide_eq_true_iff, decide_eq_true_iff, hon]
    omega
   ·refine ⟨rfl, ?_⟩
    rw [eq_comm, decide_eq_false_iff_not]
    omega
  rintro b w2 ⟨rfl, rfl⟩
  refine cnd_d (fun h => ?_) (fun h => ?_)
  ·have e2d := e1.drew
   refine hl.idx e2d rfl (show 2 * j < ls.length by omega) fun a u _ hu => ?_
   refine bnd_wi (by omega) (by omega) ?_
   refine hl.idx e2d (show ((2 * j : Nat) : Int) + 1 = ((2 * j + 1 : Nat) : Int) by omega) (show 2 * j + 1 < ls.length by omega) fun a1 v hv1 hv => ?_
   refine c1 (keep_Cut (n := n) (hu.ext e2d)) ?_
   rintro s w3 e3 rfl
   have e03 := e2d.trans e3
   refine hld1 (hv1 _ e03) ?_
   refine c1 (keep_Cut (n := n) (hv.ext e03)) ?_
   rintro s1 w4 e4 rfl
   have e04 := e03.trans e4
   have e14 : Ext none_ w2 w4 := ((Ext.refl _ _).drew.trans e3).trans e4
   refine pushk (f := p2v) p2v_len (by decide) p2v_one (by decide) (x := (u.cut 0 (min n u.n) 1, v.cut 0 (min n v.n) 1)) (ho.ext e14 fun _ _ h => h) e04 (by omega) fun o' w6 ho6 e6 _ => ?_
   refine bnd_eq (y := ((2 * (j + 1) : Nat) : Int)) (by show wi (((2 * j : Nat) : Int) + 2) = _; rw [wi_id (by omega) (by omega)]; omega) ⟨N - (j + 1), by omega, j + 1, _, rfl, rfl, by omega, by simp [hts], ho6, fun q hq => ?_, e6⟩
   rcases Nat.lt_or_ge q ts.length with h1 | h1
   ·rw [List.getElem_append_left h1]; exact hr q h1
   ·have : q = j := by simp at hq; omega
    subst this
    rw [List.getElem_append_right (by omega)]
    simp only [hts, Nat.sub_self, List.getElem_cons_zero]
    exact ⟨hu.take n, hv.take n⟩
  ·have : j = N := by omega
   subst this
   refine ⟨⟨ts, ho.rdv, by simp [prs, hts, hN], fun q hq => ?_⟩, e1⟩
   have hqN : q < min k (ls.length / 2) := by omega
   have : (prs ls k n).getD q ([], []) = ((ls.getD (2 * q) []).take n, (ls.getD (2 * q + 1) []).take n) := by
    simp only [prs, List.getD_eq_getElem?_getD, List.getElem?_map, List.getElem?_range hqN, Option.map_some, Option.getD_some]
   rw [this]
   exact ⟨(hr q hq).1.ext e1, (hr q hq).2.ext e1⟩
 rintro o w7 ⟨h7, e7⟩
 obtain ⟨ts, g1, g2, g3⟩ := h7.ex
 exact rt1 (c := .slice) _ e7 ⟨ts, g1, g2, fun i hi => ⟨Rd.at_ (g3 i hi).1, Rd.at_ (g3 i hi).2⟩⟩
theorem vp_sz {ls : List L2t} {n : Nat} {w : TW} {s : Sl} (h : Rq2 w s ls) (hn : ∀ i, (ls.getD i ([], [])).1.length ≤ n ∧ (ls.getD i ([], [])).2.length ≤ n) (i : Nat) : sz ((ls.map vp).getD i (0, 0)).1 ≤ n ∧ sz ((ls.map vp).getD i (0, 0)).2 ≤ n := by
 rw [vp_getD]
 by_cases hi : i < ls.length
 ·obtain ⟨ts, h1, h2, h3⟩ := h.ex
  obtain ⟨g1, g2⟩ := h3 i (by omega)
  exact ⟨Nat.le_trans (sz_vl g1.sm) (hn i).1, Nat.le_trans (sz_vl g2.sm) (hn i).2⟩
 ·rw [List.getD_eq_getElem?_getD, List.getElem?_eq_none (by omega)]
  simp [vp, vl, sz, dg_zero]
end Go.Proofs.YtjhfalgmgagdhaaGreatDoor.Zg
end

section
namespace Go.Proofs.YtjhfalgmgagdhaaGreatDoor.Zg
open Go.RowKit
theorem apdk {α : Type} {f : α → List Value} {k : Nat} (hf : ∀ x, (f x).length = k) (hk : 0 < k) (ho : ∀ x, ∀ v ∈ f x, v.oneCell' = true) {by_ : Nat} (hb : by_ ≤ 1024) {B : Nat} {w : TW} {e : TypeId} {s x : Sl} {l m : List α} (h : Own w B e k s (l.flatMap f)) (hx : Rdv w k x (m.flatMap f)) (hB : B ≤ w.w.heap.size) (hn : l.length + m.length ≤ 1073741824) {K : Sl → TW → Prop}
  (hK : ∀ s' w', Own w' B e k s' ((l ++ m).flatMap f) → Ext (fun c => s.blk = some c) w w' → K s' w') : apd w e k by_ s x K := by
 have h1 := h.rdv.lenk hf hk
 have h2 := hx.lenk hf hk
 refine ⟨B, l.flatMap f, m.flatMap f, h, hx, hB, fun v hv => ?_, ?_, ?_, fun s' w' ho' _ hx' _ => hK s' w' (by simpa using ho') hx'⟩
 ·obtain ⟨n, _, hn⟩ := List.mem_flatMap.1 hv
  exact ho n v hn
 ·show s.n + x.n ≤ 9223372036854775807; omega
 ·have := Nat.mul_le_mul (show s.n + x.n ≤ 1073741824 by omega) hb
  omega
set_option maxHeartbeats 800000 in
theorem law22_ModnRemainders {w : TW} {t u : HL I11} {l : Sl} {turn : Int} (hG : Gl w) (hl : ArgL w l) (_ : -9223372036854775808 ≤ turn ∧ turn ≤ 9223372036854775807) : Ct Pg F.zigguratlaw22_ModnRemainders [.agg (encs I11 t).toArray, .agg (encs I11 u).toArray, l.v, .int .i64 turn] w none_ [.one .bool] fun (r : Bool) _ => r = true := by
 obtain ⟨ls, hl⟩ := hl
 refine Ct.zigguratlaw22_ModnRemainders ?_
 unfold Sh.zigguratlaw22_ModnRemainders
 intro w1 e1 w2 e2
 have e2 := (e1.trans e2).drew
 refine modn_mk (t := t) (hG.here.ext e2) fun p w3 mo hg g po nu ra ro dv rc c m d k' e t tab e3 hE htt hp => ?_
 refine modn_mk (t := u) hE.gl fun p1 w4 mo' hg' g' po' nu' ra' ro' dv' rc' c' m' d' k'' e' t' tab' e4 hF htt' hp' => ?_
 have z : w.w.heap.size ≤ t := Nat.le_trans e2.size htt
 have z' : w.w.heap.size ≤ t' := Nat.le_trans (e2.trans e3).size htt'
 have hne : t ≠ t' := by have := hE.lt; omega
 have hE := hE.ext e4
 have e14 := (e2.trans e3).trans e4
 have L : ∀ {v v' : TW}, Xt1 t v v' → Ext (fun c => c = t ∨ c = t') v v' := fun h => h.weak fun c h => .inl h
 have R : ∀ {v v' : TW}, Xt1 t' v v' → Ext (fun c => c = t ∨ c = t') v v' := fun h => h.weak fun c h => .inr h
 refine j1 (fun (b : Bool) w' => b = false ∧ w' = w4) ?_ ?_
 ·exact cnd_f (by rw [hp]) ⟨hp', rfl⟩
 rintro _ w5 ⟨rfl, rfl⟩
 refine cnd_f rfl ?_
 refine c1 (law22_pairs (k := 5) (n := 4) (hl.here.ext e14) (by decide)) fun s w6 e6 hs => ?_
 obtain ⟨hf, hf4⟩ := prs_few (ls := ls) (k := 5) (n := 4) (by decide) (by decide)
 have hn16 := hf.n
 generalize prs ls 5 4 = qs at *
 have hsz := vp_sz hs hf4
 have ns := hs.len
 refine bnd_eq (y := ((qs.length + 1 : Nat) : Int)) (by show wi ((s.n : Int) + 1) = _; rw [wi_id (by omega) (by omega)]; omega) ?_
 refine c1 (keep_Within (by omega) (by omega)) ?_
 rintro r w7 e7 ⟨r0, r1⟩
 have r1 : (r : Int) < ((qs.length + 1 : Nat) : Int) := r1
 have r0 : (0 : Int) ≤ r := r0
 obtain ⟨kk, rfl⟩ : ∃ kk : Nat, r = (kk : Int) := ⟨Int.toNat r, (Int.toNat_of_nonneg r0).symm⟩
 have hkk : kk ≤ qs.length := by omega
 have e67 : Ext none_ w6 w7.drew := e7.drew
 have hs7 := hs.ext e67
 obtain ⟨ts, g1, g2, g3⟩ := hs7.ex
 have hcap := g1.2.1
 refine ⟨by omega, by omega, by omega, ⟨by omega, by omega, by omega, ?_⟩⟩
 rw [Int.toNat_natCast, Int.toNat_natCast, ns]
 have c1' := g1.cutk p2v_len (by decide) (lo := kk) (hi := qs.length) hkk (by omega)
 have c2' := g1.cutk p2v_len (by decide) (lo := 0) (hi := kk) (Nat.zero_le _) (by omega)
 have htk : ts.take qs.length = ts := List.take_of_length_le (by omega)
 rw [htk] at c1'
 rw [List.drop_zero] at c2'
 refine apdk (f := p2v) p2v_len (by decide) p2v_one (by decide) (B := w7.drew.w.heap.size) (l := []) (m := ts.drop kk) (Own.nilk _ _ _) c1' (Nat.le_refl _) (by simp; omega) fun s3 w8 h8 x8 => ?_
 rw [List.nil_append] at h8
 have e78 : Ext none_ w7.drew w8 := (Ext.refl none_ w7.drew).own x8 fun b hb => by simp [Sl.blk] at hb
 refine apdk (f := p2v) p2v_len (by decide) p2v_one (by decide) (B := w7.drew.w.heap.size) (l := ts.drop kk) (m := ts.take kk) h8 (Rdv.extN c2' e78) e78.size (by simp; omega) fun s4 w9 h9 x9 => ?_
 have e79 : Ext none_ w7.drew w9 := e78.own x9 fun b hb => (h8.from_ b hb).1
 have e69 := e67.trans e79
 obtain ⟨qs', hqs'⟩ : ∃ qs', qs' = qs.drop kk ++ qs.take kk := ⟨_, rfl⟩
 have hlen' : qs'.length = qs.length := by rw [hqs']; simp; omega
 have getq : ∀ i, ∀ hi : i < (ts.drop kk ++ ts.take kk).length, ∃ j, ∃ hj : j < ts.length, (ts.drop kk ++ ts.take kk)[i] = ts[j] ∧ qs'.getD i ([], []) = qs.getD j ([], []) := fun i hi => by
  rcases Nat.lt_or_ge i (ts.drop kk).length with h1 | h1
  ·refine ⟨kk + i, by simp at h1; omega, ?_, ?_⟩
   ·rw [List.getElem_append_left h1, List.getElem_drop]
   ·have h2 : i < (qs.drop kk).length := by simp at h1 ⊢; omega
    rw [hqs', List.getD_eq_getElem?_getD, List.getElem?_append_left h2, List.getElem?_drop, List.getD_eq_getElem?_getD]
  ·have hi' : i - (ts.drop kk).length < kk := by simp at hi h1 ⊢; omega
   refine ⟨i - (ts.drop kk).length, by simp at hi h1 ⊢; omega, ?_, ?_⟩
   ·rw [List.getElem_append_right h1, List.getElem_take]
   ·have h2 : (qs.drop kk).length = (ts.drop kk).length := by simp; omega
    rw [hqs', List.getD_eq_getElem?_getD, List.getElem?_append_right (by omega), h2, List.getElem?_take_of_lt hi', List.getD_eq_getElem?_getD]
 have hs4 : Rq2 w9 s4 qs' := ⟨_, h9.rdv, by simp; omega, fun i hi => by
  obtain ⟨j, hj, q1, q2⟩ := getq i hi
  rw [q1, q2]
  exact ⟨(g3 j hj).1.ext e79, (g3 j hj).2.ext e79⟩⟩
 have hperm : qs'.Perm qs := by
  rw [hqs']
  have := List.perm_append_comm (l₁ := qs.drop kk) (l₂ := qs.take kk)
  rwa [List.take_append_drop] at this
 have hpv : (qs'.map vp).Perm (qs.map vp) := hperm.map _
 have hmem : ∀ q, q ∈ qs.map vp ↔ q ∈ qs'.map vp := fun q => hpv.mem_iff.symm
 have hpm : ((qs'.map vp).map (·.2)).Perm ((qs.map vp).map (·.2)) := hpv.map _
 have hcp : Cop ((qs'.map vp).map (·.2)) ↔ Cop ((qs.map vp).map (·.2)) := Cop.perm hpm
 have hpr : prodl ((qs.map vp).map (·.2)) = prodl ((qs'.map vp).map (·.2)) := (prodl_perm hpm).symm
 have hf' : ∀ i, (qs'.getD i ([], [])).1.length ≤ 4 ∧ (qs'.getD i ([], [])).2.length ≤ 4 := fun i => by
  rcases Nat.lt_or_ge i qs'.length with h | h
  ·obtain ⟨j, hj, q1, q2⟩ := getq i (by simp; omega)
   rw [q2]; exact hf4 j
  ·rw [List.getD_eq_getElem?_getD, List.getElem?_eq_none h]; simp
 have hsz' := vp_sz hs4 hf'
 clear g1 g2 g3 c1' c2' h8 h9 x8 x9 getq
 have hE := hE.ext (e6.trans e69)
 have hF := hF.ext (e6.trans e69)
 have hs := hs.ext e69
 have e49 := e6.trans e69
 have hT := hE.tz
 refine tM hT (modn_Crt hE hs.rp (fun i => ⟨Nat.le_trans (hsz i).1 (by decide), Nat.le_trans (hsz i).2 (by decide)⟩) (by simpa using hn16) (by decide) (by decide)) ?_
 rintro r1s r2s r3 w10 x10 ⟨hA, hB, hC, hE10⟩
 have hF := hF.other hT hne.symm x10
 have hs := hs.extT hT x10
 have hs4 := hs4.extT hT x10
 intro w11 e11 w12 e12
 have e1012 := e11.trans e12
 have hE := hE10.ext e1012
 have hF := hF.ext e1012
 have hs := hs.ext e1012
 have hs4 := hs4.ext e1012
 have X12 := (L x10).trans e1012.any
 have hT' := hF.tz
 refine tM hT' (modn_Crt hF hs4.rp (fun i => ⟨Nat.le_trans (hsz' i).1 (by decide), Nat.le_trans (hsz' i).2 (by decide)⟩) (by simp; omega) (by decide) (by decide)) ?_
 rintro r4s r5s r6 w13 x13 ⟨hA', hB', hC', hF13⟩
 have hs := hs.extT hT' x13
 intro w14 e14' w15 e15
 have e1315 := e14'.trans e15
 have hs := hs.ext e1315
 have hG15 := hF13.gl.ext e1315
 have X15 := (X12.trans (R x13)).trans e1315.any
 have fin : ∀ {v : TW}, Ext none_ w15 v → Rt none_ [.one .bool] (fun (r : Bool) _ => r = true) w (.bool true) v := fun ev => rt1 (c := .bool) true ((e14.trans e49).own (X15.trans ev.any) fun c hc => hc.elim (fun h => by subst h; exact z) fun h => by subst h; exact z') rfl
 by_cases hgood : (∀ q ∈ qs.map vp, 0 < q.2) ∧ Cop ((qs.map vp).map (·.2))
 ·obtain ⟨hpos, hc⟩ := hgood
  obtain ⟨rfl, RR, hcr, hR, hM⟩ := hC hpos hc
  obtain ⟨rfl, R', hcr', hR', hM'⟩ := hC' (fun q hq => hpos q ((hmem q).2 hq)) (hcp.2 hc)
  obtain rfl := hcr.uniq hcr' hc hmem hpr
  rw [← hpr] at hM'
  have hR := On.ext (hR.ext e1012 |>.extT hT' x13) e1315
  have hM := On.ext (hM.ext e1012 |>.extT hT' x13) e1315
  have hR' := On.ext hR' e1315
  have hM' := On.ext hM' e1315
  obtain ⟨P, hP⟩ : ∃ P, prodl ((qs.map vp).map (·.2)) = P := ⟨_, rfl⟩
  rw [hP] at hM hM'
  have hlt : RR < P := by rw [← hP]; exact hcr.lt
  have zP : sz P ≤ 80 := by
   have key : ∀ xs : List Nat, (∀ x ∈ xs, sz x ≤ 4) → sz (prodl xs) ≤ 4 * xs.length + 1 := fun xs => by
    induction xs with
    | nil => intro _; exact sz_word (by decide)
    | cons x xs ih =>
     intro h
     rw [show x :: xs = [x] ++ xs from rfl, prodl_append, prodl_one]
     have h1 := ih fun y hy => h y (by simp [hy])
     have h2 := h x (by simp)
     have h3 := sz_mul x (prodl xs)
     simp
     omega
   have := key ((qs.map vp).map (·.2)) fun x hx => by
    obtain ⟨q, hq, rfl⟩ := List.mem_map.1 hx
    obtain ⟨i, hi, rfl⟩ := List.getElem_of_mem hq
    have := (hsz i).2
    rwa [List.getD_eq_getElem?_getD, List.getElem?_eq_getElem hi] at this
   rw [hP] at this
   have hl1 : ((qs.map vp).map (·.2)).length = qs.length := by simp
   rw [hl1] at this
   omega
  have zR : sz RR ≤ 80 := Nat.le_trans (sz_mono (Nat.le_of_lt hlt)) zP
  have nR := hR.len
  have nM := hM.len
  have dRR := dz_of_sz zR
  have dPP := dz_of_sz zP
  refine ⟨fun (b : Bool) (u0 u1 u2 u3 : Sl) w16 => b = false ∧ r1s = u0 ∧ r2s = u1 ∧ r4s = u2 ∧ r5s = u3 ∧ w15 = w16, ?_, ?_⟩
  ·exact cnd_f rfl ⟨rfl, rfl, rfl, rfl, rfl, rfl⟩
  rintro _ _ _ _ _ w16' ⟨rfl, rfl, rfl, rfl, rfl, rfl⟩
  refine cnd_f rfl ?_
  refine ⟨fun (u0 u1 u2 u3 : Sl) w26 => r1s = u0 ∧ r2s = u1 ∧ r4s = u2 ∧ r5s = u3 ∧ Ext none_ w15 w26, ?_, ?_⟩
  ·refine ⟨fun (M : Nat) (i : Int) (u0 u1 u2 u3 : Sl) w19 => ∃ j : Nat, i = j ∧ M = qs.length - j ∧ j ≤ qs.length ∧ r1s = u0 ∧ r2s = u1 ∧ r4s = u2 ∧ r5s = u3 ∧ Ext none_ w15 w19, ⟨qs.length, 0, rfl, by omega, by omega, rfl, rfl, rfl, rfl, Ext.refl _ _⟩, ?_⟩
   rintro M i u0 u1 u2 u3 w19 ⟨j, rfl, rfl, hj, rfl, rfl, rfl, rfl, e19⟩
   refine cnd_d (fun h => ?_) (fun h => ⟨rfl, rfl, rfl, rfl, e19⟩)
   have h : (j : Int) < (qs.length : Nat) := h
   have hj1 : j < qs.length := by omega
   have hmemj : vp (qs.getD j ([], [])) ∈ qs.map vp := by rw [List.getD_eq_getElem?_getD, List.getElem?_eq_getElem hj1]; exact List.mem_map.2 ⟨_, List.getElem_mem hj1, rfl⟩
   have hmp : 0 < vl W64 (qs.getD j ([], [])).2 := hpos _ hmemj
   have hrem : RR % vl W64 (qs.getD j ([], [])).2 = vl W64 (qs.getD j ([], [])).1 % vl W64 (qs.getD j ([], [])).2 := hcr.rem _ hmemj
   obtain ⟨k1, k2⟩ := hf4 j
   refine hs.at2 e19 rfl hj1 fun v hv => ?_
   refine c1 (law22_from (hv.ext e19) (by omega)) fun s5 w20 e20 h5 => ?_
   have e1620 := e19.trans e20
   have e20d : Ext none_ w15 w20.drew := e1620.drew
   refine hs.at1 e20d rfl hj1 fun a1 v1 hc1 hv1 => ?_
   have dm := dz_of_sz (Nat.le_trans (sz_vl hv.sm) k2)
   have dr := dz_of_sz (Nat.le_trans (sz_vl hv1.sm) k1)
   refine c1 (law22_from (On.ext hR e20d).rd (by rw [dg_len]; omega)) fun s6 w21 e21 h6 => ?_
   rw [vl_dg W2] at h6
   refine hld1 (hc1 _ e21) ?_
   have h5' := h5.dr.ext ((Ext.refl _ _).drew.trans e21)
   refine c1 (ref_Mod' h6.dr h5' hmp (by omega) (by omega)) fun s7 w22 e22 h7 => ?_
   refine hld1 (hc1 _ (e21.trans e22)) ?_
   have e1622 := (e20d.trans e21).trans e22
   refine c1 (law22_from (hv1.ext e1622) (by omega)) fun s8 w23 e23 h8 => ?_
   refine c1 (ref_Mod' h8.dr ((h5'.ext e22).ext e23) hmp (by omega) (by omega)) fun s9 w24 e24 h9 => ?_
   refine c1 (ref_Cmp (h7.ext (e23.trans e24)) h9) ?_
   rintro _ w25 e25 rfl
   refine cnd_f (by rw [bne_eq_false_iff_eq]; exact cmpN_eq.2 hrem) ?_
   refine bnd_eq (y := ((j + 1 : Nat) : Int)) (by show wi ((j : Int) + 1) = _; rw [wi_id (by omega) (by omega)]; omega) ⟨qs.length - (j + 1), by omega, j + 1, rfl, rfl, by omega, rfl, rfl, rfl, rfl, (e1622.trans e23).trans (e24.trans e25)⟩
  rintro _ _ _ _ w26 ⟨rfl, rfl, rfl, rfl, e26⟩
  have e26d := e26.drew
  refine j1 (fun (b : Bool) w' => b = true ∧ Ext none_ w15 w') ?_ ?_
  ·refine c1 (law22_from (On.ext hR e26d).rd (by rw [dg_len]; omega)) fun s10 w27 e27 h10 => ?_
   refine c1 (law22_from (On.ext hM (e26d.trans e27)).rd (by rw [dg_len]; omega)) fun s11 w28 e28 h11 => ?_
   rw [vl_dg W2] at h10 h11
   refine c1 (ref_Cmp (h10.dr.ext e28) h11.dr) ?_
   rintro _ w29 e29 rfl
   have e1629 := ((e26d.trans e27).trans e28).trans e29
   refine cnd_t (by rw [decide_eq_true_iff]; exact cmpN_neg.2 hlt) ?_
   refine same_on (On.ext hR e1629) (On.ext hR' e1629) fun w30 e30 => cnd_t rfl ?_
   refine same_on (On.ext hM (e1629.trans e30)) (On.ext hM' (e1629.trans e30)) fun w31 e31 => cnd_t rfl ?_
   have e1631 := (e1629.trans e30).trans e31
   exact wk22 (hG15.ext e1631) fun w32 e32 => ⟨rfl, e1631.trans e32⟩
  rintro b w33 ⟨rfl, e33⟩
  exact fin e33
 ·have hbad : r3 = r6 ∧ r3 ≠ 0 := by
   by_cases h0 : ∃ q ∈ qs.map vp, q.2 = 0
   ·have h3 : r3 = 2 := (hA h0).2.2
    have h6 : r6 = 2 := (hA' (by obtain ⟨q, hq, h⟩ := h0; exact ⟨q, (hmem q).1 hq, h⟩)).2.2
    exact ⟨h3.trans h6.symm, by rw [h3]; decide⟩
   ·have hpos : ∀ q ∈ qs.map vp, 0 < q.2 := fun q hq => Nat.pos_of_ne_zero fun h => h0 ⟨q, hq, h⟩
    have hnc : ¬ Cop ((qs.map vp).map (·.2)) := fun hc => hgood ⟨hpos, hc⟩
    have h3 : r3 = 4 := (hB hpos hnc).2.2
    have h6 : r6 = 4 := (hB' (fun q hq => hpos q ((hmem q).2 hq)) (fun hc => hnc (hcp.1 hc))).2.2
    exact ⟨h3.trans h6.symm, by rw [h3]; decide⟩
  obtain ⟨rfl, h3⟩ := hbad
  refine ⟨fun (b : Bool) (_ _ _ _ : Sl) w16 => b = true ∧ w16 = w15, ?_, ?_⟩
  ·exact cnd_t (by simpa using h3) ⟨rfl, rfl⟩
  rintro _ _ _ _ _ w16 ⟨rfl, rfl⟩
  refine cnd_t rfl ?_
  refine j1 (fun (b : Bool) w' => b = true ∧ Ext none_ w16 w') ?_ ?_
  ·exact cnd_t (by simp) (wk22 hG15 fun w17 e17 => ⟨rfl, e17⟩)
  rintro b w18 ⟨rfl, e18⟩
  exact fin e18
end Go.Proofs.YtjhfalgmgagdhaaGreatDoor.Zg
end
