/- A part of the proofs of this seat's laws: words, lemmas or contracts of its functions. -/
import Derived.Test.YtjhfalgmgagdhaaGreatDoorGK
import Derived.Test.YtjhfalgmgagdhaaGreatDoorGP4
import Derived.ProofKit
import Derived.OpenShut
set_option linter.unusedVariables false
set_option linter.unusedSimpArgs false
set_option linter.unnecessarySimpa false
section
namespace Go.Proofs.YtjhfalgmgagdhaaGreatDoor.Zg
open Go.RowKit
abbrev B32 : Nat := 4294967296
theorem b32 : B32 = 4294967296 := rfl
theorem b2 : 2 ≤ B32 := by decide
theorem bw {x : Nat} (h : x < B32) : x < W64 := Nat.lt_trans h (by decide)
def Dn (w : TW) (B : Nat) (s : Sl) (x : Nat) : Prop := Ow w B s (dg B32 x)
def Dr (w : TW) (s : Sl) (x : Nat) : Prop := Rd w s (dg B32 x)
def dz (x : Nat) : Nat := (dg B32 x).length
theorem dz_eq (x : Nat) : (dg B32 x).length = dz x := rfl
theorem dz_zero {x : Nat} : dz x = 0 ↔ x = 0 := dg_length_zero b2
theorem dz_mono {x y : Nat} (h : x ≤ y) : dz x ≤ dz y := dg_length_mono b2 h
theorem dz_pow {x k : Nat} (h : x < B32 ^ k) : dz x ≤ k := dg_length_le b2 h
theorem dz_lt (x : Nat) : x < B32 ^ dz x := dg_lt_pow b2 x
theorem dz_sz (x : Nat) : dz x ≤ 2 * sz x := by
 refine dz_pow ?_
 rw [Nat.pow_mul]
 exact lt_sz x
theorem Dn.dr {w : TW} {B : Nat} {s : Sl} {x : Nat} (h : Dn w B s x) : Dr w s x := Ow.rd h
theorem Dn.ext {w w' : TW} {B : Nat} {s : Sl} {x : Nat} (h : Dn w B s x) (hx : Ext none_ w w') : Dn w' B s x := Ow.ext h hx
theorem Dr.ext {w w' : TW} {s : Sl} {x : Nat} (h : Dr w s x) (hx : Ext none_ w w') : Dr w' s x := Rd.ext h hx
theorem Dr.here {w : TW} {s : Sl} {x : Nat} (h : Dr w s x) : Dr w.here s x := Rd.here h
theorem Dn.at {w : TW} {B k : Nat} {s : Sl} {x : Nat} (h : Dn w B s x) : Dn (w.at k) B s x := Ow.at h
theorem Dr.len {w : TW} {s : Sl} {x : Nat} (h : Dr w s x) : s.n = dz x := Rd.len h
theorem Dr.lt {w : TW} {s : Sl} {x : Nat} (_ : Dr w s x) (j : Nat) : (dg B32 x).getD j 0 < 4294967296 := (dg_sm b2 x).getD (by decide) j
theorem Dn.nil (w : TW) (B : Nat) : Dn w B Sl.nil 0 := by have := Ow.nil w B; rwa [← dg_zero B32] at this
theorem Rd.add0 {w : TW} {s : Sl} {l : List Nat} (h : Rd w s l) {x c : Int} {j d : Nat} (hx : x = j) (hc : c = d) (hlt : d + l.getD j 0 < W64) {K : Int → TW → Prop} (hK : K (d + l.getD j 0 : Nat) w) :
  Jn [.int .u64] (fun J => cond (decide (x < (s.n : Int))) (ixa s x 1 fun a => ldc (.int .u64) w a fun (v : Int) => bnd (wu (c + v)) fun n => J n w) (J c w)) K := by
 refine jn_all ?_
 have hl := h.len
 subst hx hc
 refine cnd_d (fun h0 => ?_) (fun h0 => ?_)
 ·exact h.ix rfl (by omega) (bnd_wu' (by simp) hlt hK)
 ·rw [getD_past (by omega), Nat.add_zero] at hK
  exact hK
theorem ref_norm {w : TW} {s : Sl} {l : List Nat} (h : Rd w s l) (hs : Sm B32 l) : Ct Pg F.zigguratref02_norm [s.v] w none_ [.one .slice] fun (s' : Sl) _ => s' = s.cut 0 (dz (vl B32 l)) 1 := by
 refine Ct.zigguratref02_norm ?_
 unfold Sh.zigguratref02_norm
 have h := h.here
 have hl := h.len
 have hc := h.cap
 refine j1 (fun (k : Int) w' => Ext none_ w.here w' ∧ k = (dz (vl B32 l) : Nat)) ?_ ?_
 ·refine lp1 (fun m (k : Int) w' => ∃ j : Nat, k = j ∧ m = j ∧ j ≤ l.length ∧ vl B32 (l.drop j) = 0 ∧ Ext none_ w.here w') l.length ⟨l.length, by rw [hl], rfl, Nat.le_refl _, by simp [vl], Ext.refl _ _⟩ ?_
  rintro m k w' ⟨j, rfl, rfl, hj, hz, hx⟩
  refine j1 (fun (b : Bool) w'' => w'' = w' ∧ b = decide (∃ h : 0 < m, l[m - 1] = 0)) ?_ ?_
  ·refine cnd_d (fun h0 => ?_) (fun h0 => ?_)
   ·refine bnd_wi (by omega) (by omega) ((h.ext hx).idx (j := m - 1) (by omega) (by omega) ⟨rfl, ?_⟩)
    rw [Bool.eq_iff_iff]
    simp
    exact ⟨fun h => ⟨by omega, h⟩, fun ⟨_, h⟩ => h⟩
   ·exact ⟨rfl, by simp; omega⟩
  ·rintro b w'' ⟨rfl, rfl⟩
   refine cnd_d (fun h0 => ?_) (fun h0 => ?_)
   ·obtain ⟨h1, h2⟩ := h0
    refine bnd_wi (by omega) (by omega) ⟨m - 1, by omega, m - 1, by omega, rfl, by omega, ?_, hx⟩
    have := vl_split B32 (l.drop (m - 1)) 1 (by simp; omega)
    rw [List.drop_drop, show m - 1 + 1 = m by omega, hz] at this
    rw [this, List.drop_eq_getElem_cons (by omega : m - 1 < l.length), List.take_succ_cons]
    simp [vl, h2]
   ·refine ⟨hx, ?_⟩
    rw [dz, dg_len_of b2 hs hj hz (fun h1 h2 => h0 ⟨h1, h2⟩)]
    simp [hj]
 ·rintro k w' ⟨hx, rfl⟩
  have h1 : dz (vl B32 l) ≤ l.length := dg_length_vl b2 hs
  exact slc_of (l := 0) (h := dz (vl B32 l)) rfl rfl (Nat.zero_le _) (by omega) (rt1 (c := .slice) _ hx rfl)
theorem nm {w : TW} {B : Nat} {s : Sl} {l : List Nat} {K : Sl → TW → Prop} (h : Ow w B s l) (hs : Sm B32 l) (hK : ∀ s' w', Ext none_ w w' → Dn w' B s' (vl B32 l) → K s' w') : cl Pg F.zigguratref02_norm [s.v] w [.one .slice] K := by
 refine c1 (ref_norm h.rd hs) ?_
 rintro s' w' hx rfl
 refine hK _ _ hx ?_
 have := (h.cut0 (n := dz (vl B32 l)) (dg_length_vl b2 hs)).ext hx
 rwa [dz, ← (dg_vl b2 hs).1] at this
theorem Sm.snoc {b x : Nat} {l : List Nat} (h : Sm b l) (hx : x < b) : Sm b (l ++ [x]) := h.append (Sm.cons hx (Sm.nil _))
theorem mk_0 {w : TW} {c : Int} {m : Nat} {K : Sl → TW → Prop} (hc : c = m) (hm : m ≤ 17592186044416) (h : ∀ s w', Ow w' w.w.heap.size s [] → Ext none_ w w' → K s w') : mks w 0 c T.uint64 8 [.int .u64 0] K :=
 mk_cap (n := 0) rfl hc (Nat.zero_le _) hm fun _ _ hf _ _ e _ => h _ _ (hf.cut0 (n := 0) (Nat.zero_le _)) e
theorem Rd.ixk {w0 w : TW} {s : Sl} {l : List Nat} (h : Rd w0 s l) (e : Ext none_ w0 w) {i : Int} {j : Nat} (hi : i = j) (hj : j < l.length) {K : Addr → Int → Prop} (hK : ∀ a, (∀ w', Ext none_ w0 w' → w'.w.cell? a = some (U (l.getD j 0))) → K a (l.getD j 0 : Nat)) : ixa s i 1 (fun a => ldc (.int .u64) w a (K a)) := by
 subst hi
 have hne : l.map U ≠ [] := fun e => by have := congrArg List.length e; simp at this; subst this; simp at hj
 have hl := h.len
 obtain ⟨b, o, hp, _, _⟩ := h.rv.2.2.2 hne
 have key : ∀ w', Ext none_ w0 w' → w'.w.cell? ((⟨b, o, none⟩ : Addr).add (j * 1)) = some (U (l.getD j 0)) := fun w' e' => by
  obtain ⟨b', o', hp', _, hc⟩ := (h.ext e').rv.2.2.2 hne
  rw [hp] at hp'
  injection hp' with hp'
  injection hp' with h1 h2
  subst h1 h2
  rw [Nat.mul_one, Addr.add_mk]
  exact hc j _ (by simp [hj])
 exact ⟨⟨b, o, none⟩, hp, by omega, by omega, _, key w e, hK _ key⟩
theorem hld2 {w : TW} {a b : Addr} {u v : Value} {K : Prop} (h1 : w.w.cell? a = some u) (h2 : w.w.cell? b = some v) (hK : K) : hld w [(a, u), (b, v)] K := ⟨fun y hy => by
 simp only [List.mem_cons, List.not_mem_nil, or_false] at hy
 rcases hy with rfl | rfl
 ·exact h1
 ·exact h2, hK⟩
theorem hld1 {w : TW} {a : Addr} {u : Value} {K : Prop} (h1 : w.w.cell? a = some u) (hK : K) : hld w [(a, u)] K := ⟨fun y hy => by
 simp only [List.mem_cons, List.not_mem_nil, or_false] at hy
 subst hy
 exact h1, hK⟩
theorem ref_From {w : TW} {s : Sl} {x : Nat} (hs : Nt w s x) (hn : s.n ≤ 274877906944) : Ct Pg F.zigguratref02_From [s.v] w none_ [.one .slice] fun (s' : Sl) w' => Dn w' w.w.heap.size s' x := by
 obtain ⟨l, hs, rfl⟩ := hs
 refine Ct.zigguratref02_From ?_
 unfold Sh.zigguratref02_From
 have hl := hs.len
 have hs := hs.here
 refine bnd_wi (by omega) (by omega) (mk_0 (m := 2 * s.n) (by omega) (by omega) fun o w1 ho e1 => ?_)
 refine j1 (fun (o : Sl) w2 => ∃ P, Ow w2 w.here.w.heap.size o P ∧ Sm B32 P ∧ vl B32 P = vl W64 l ∧ Ext none_ w.here w2) ?_ ?_
 ·refine lp2 (fun m (o : Sl) (i : Int) w2 => ∃ (j : Nat) (P : List Nat), i = j ∧ m = l.length - j ∧ j ≤ l.length ∧ P.length = 2 * j ∧ Ow w2 w.here.w.heap.size o P ∧ Sm B32 P ∧ vl B32 P = vl W64 (l.take j) ∧ Ext none_ w.here w2) l.length ⟨0, [], rfl, by omega, by omega, rfl, ho, Sm.nil _, by simp [vl_nil], e1⟩ ?_
  rintro m o i w2 ⟨j, P, rfl, rfl, hj, hP, ho, hsm, hv, e2⟩
  refine cnd_d (fun h0 => ?_) (fun h0 => ?_)
  ·have hj1 : j < l.length := by omega
   have hb := hs.lt j
   have hgo := vl_take_getD W64 l j
   refine hs.ixk e2.drew rfl hj1 fun a1 k1 => remN (x := l.getD j 0) (y := 4294967296) rfl rfl (by decide) (hs.ixk e2.drew rfl hj1 fun a2 k2 => divNu (x := l.getD j 0) (y := 4294967296) rfl rfl hb (by decide) ?_)
   generalize l.getD j 0 = v at *
   have hm : v % 4294967296 < B32 := Nat.mod_lt _ (by decide)
   have hd : v / 4294967296 < B32 := Nat.div_lt_of_lt_mul (by rw [b32]; omega)
   refine nw_u64s (l := [v % 4294967296, v / 4294967296]) 2 rfl (Sm.cons (bw hm) (Sm.cons (bw hd) (Sm.nil _))) (by decide) fun b w3 h3 e3 => ?_
   have e23 := e2.drew.trans e3
   refine hld2 (k2 _ e23) (k1 _ e23) ?_
   have ho := Ow.ext ho.drew e3
   refine ho.cat h3.rd e23.size (by simp [hP]; omega) fun s1 w4 h4 e4 _ => ?_
   have e4 := e23.own e4 ho.blk_le
   refine hld2 (k2 _ e4) (k1 _ e4) ?_
   refine bnd_wi (by omega) (by omega) ⟨l.length - (j + 1), by omega, j + 1, _, by omega, rfl, hj1, by simp [hP]; omega, h4, hsm.append (Sm.cons hm (Sm.cons hd (Sm.nil _))), ?_, e4⟩
   rw [vl_append, hP, hv, hgo, vl_cons, vl_one, show B32 ^ (2 * j) = W64 ^ j by rw [Nat.pow_mul]; rfl, b32, Nat.mod_add_div]
  ·have : j = l.length := by omega
   subst this
   rw [List.take_of_length_le (Nat.le_refl _)] at hv
   exact ⟨P, ho, hsm, hv, e2⟩
 ·rintro o w2 ⟨P, ho, hsm, hv, e2⟩
  refine nm ho hsm fun s' w' e' h' => rt1 (c := .slice) _ (e2.trans e') ?_
  rw [hv] at h'
  exact h'.at
end Go.Proofs.YtjhfalgmgagdhaaGreatDoor.Zg
end

section
namespace Go.Proofs.YtjhfalgmgagdhaaGreatDoor.Zg
open Go.RowKit
theorem ref_Cmp {w : TW} {s t : Sl} {x y : Nat} (hs : Dr w s x) (ht : Dr w t y) : Ct Pg F.zigguratref02_Cmp [s.v, t.v] w none_ [.one (.int .i64)] fun (r : Int) _ => r = cmpN x y := by
 refine Ct.zigguratref02_Cmp ?_
 unfold Sh.zigguratref02_Cmp
 have ls := hs.len
 have lt := ht.len
 have hle := Rd.le hs
 rw [dz_eq] at hle
 refine cnd_i (fun h0 => ?_) (fun h0 => ?_)
 ·have h0 : dz x ≠ dz y := by intro h; simp [ls, lt, h] at h0
  refine cnd_d (fun h1 => ?_) (fun h1 => ?_)
  ·refine rt1 (c := .int .i64) _ (Ext.refl _ _) ?_
   rw [cmpN, if_pos]
   exact Nat.lt_of_not_le fun h => by have := dz_mono h; omega
  ·refine rt1 (c := .int .i64) _ (Ext.refl _ _) ?_
   have : ¬ x ≤ y := fun h => by have := dz_mono h; omega
   rw [cmpN, if_neg (by omega), if_neg (by omega)]
 ·have h0 : dz x = dz y := by simp at h0; omega
  have hlx := dz_eq x
  have hly := dz_eq y
  refine bnd_wi (by omega) (by omega) ?_
  refine j0 (fun w' => Ext none_ w.here w' ∧ x = y) ?_ ?_
  ·refine lp1 (fun k (i : Int) w' => ∃ j : Nat, i = j - 1 ∧ k = j ∧ j ≤ dz x ∧ vl B32 ((dg B32 x).drop j) = vl B32 ((dg B32 y).drop j) ∧ Ext none_ w.here w') (dz x) ⟨dz x, by omega, rfl, Nat.le_refl _, ?_, Ext.refl _ _⟩ ?_
   ·rw [List.drop_of_length_le (by omega), List.drop_of_length_le (by omega)]
   ·rintro k i w' ⟨j, rfl, rfl, hj, he, hx⟩
    refine cnd_d (fun h1 => ?_) (fun h1 => ?_)
    ·have hs1 := (Rd.ext hs.here hx).drew
     have ht1 := (Rd.ext ht.here hx).drew
     have e1 : (k : Int) - 1 = (k - 1 : Nat) := by omega
     have hk : k - 1 < (dg B32 x).length := by omega
     have hk2 : k - 1 < (dg B32 y).length := by omega
     refine hs1.idx e1 hk (ht1.idx e1 hk2 ?_)
     refine cnd_d (fun h2 => ?_) (fun h2 => ?_)
     ·refine rt1 (c := .int .i64) _ hx.drew ?_
      have := vl_lt_of_top (dg_sm b2 x) hk hk2 (by omega) (by rw [show k - 1 + 1 = k by omega, he]; exact Nat.le_refl _)
      rw [vl_dg b2, vl_dg b2] at this
      rw [cmpN, if_pos this]
     ·refine hs1.drew.idx e1 hk (ht1.drew.idx e1 hk2 ?_)
      refine cnd_d (fun h3 => ?_) (fun h3 => ?_)
      ·refine rt1 (c := .int .i64) _ hx.drew.drew ?_
       have := vl_lt_of_top (dg_sm b2 y) hk2 hk (by omega) (by rw [show k - 1 + 1 = k by omega, he]; exact Nat.le_refl _)
       rw [vl_dg b2, vl_dg b2] at this
       rw [cmpN, if_neg (by omega), if_neg (by omega)]
      ·refine bnd_wi (by omega) (by omega) ⟨k - 1, by omega, k - 1, by omega, rfl, by omega, ?_, hx.drew.drew⟩
       rw [List.drop_eq_getElem_cons hk, List.drop_eq_getElem_cons hk2, show k - 1 + 1 = k by omega, vl_cons, vl_cons, he]
       omega
    ·refine ⟨hx, ?_⟩
     have : k = 0 := by omega
     subst this
     rw [List.drop_zero, List.drop_zero, vl_dg b2, vl_dg b2] at he
     exact he
  ·rintro w' ⟨hx, he⟩
   refine rt1 (c := .int .i64) _ hx ?_
   rw [cmpN, if_neg (by omega), if_pos he]
end Go.Proofs.YtjhfalgmgagdhaaGreatDoor.Zg
end

section
namespace Go.Proofs.YtjhfalgmgagdhaaGreatDoor.Zg
open Go.RowKit
theorem two_split32 (n : Nat) : 2 ^ n = B32 ^ (n / 32) * 2 ^ (n % 32) := by
 rw [show B32 = 2 ^ 32 by decide, ← Nat.pow_mul, ← Nat.pow_add, Nat.div_add_mod]
theorem vl_drop_div32 {l : List Nat} (h : Sm B32 l) (k : Nat) : vl B32 (l.drop k) = vl B32 l / B32 ^ k := by
 rcases Nat.lt_or_ge l.length k with hk | hk
 ·have hlt : vl B32 l < B32 ^ k := Nat.lt_of_lt_of_le (vl_lt h) (Nat.pow_le_pow_right (by decide) (Nat.le_of_lt hk))
  rw [List.drop_of_length_le (Nat.le_of_lt hk), Nat.div_eq_of_lt hlt]
  rfl
 ·have h1 := vl_split B32 l k hk
  have h2 := vl_lt (h.take k)
  rw [List.length_take, Nat.min_eq_left hk] at h2
  have h3 : 0 < B32 ^ k := Nat.pow_pos (by decide)
  rw [h1, Nat.add_mul_div_left _ _ h3, Nat.div_eq_of_lt h2, Nat.zero_add]
end Go.Proofs.YtjhfalgmgagdhaaGreatDoor.Zg
end

section
namespace Go.Proofs.YtjhfalgmgagdhaaGreatDoor.Zg
open Go.RowKit
theorem getD_set_ne {l : List Nat} {i k x : Nat} (h : i ≠ k) : (l.set i x).getD k 0 = l.getD k 0 := by simp [h]
def Rl (w : TW) (s : Sl) (ls : List (List Nat)) : Prop := ∃ ss : List Sl, Rdv w 1 s (ss.map Sl.v) ∧ ss.length = ls.length ∧ ∀ i t, ss[i]? = some t → Rd w t (ls.getD i [])
theorem Rl.rs {w : TW} {s : Sl} {ls : List (List Nat)} (h : Rl w s ls) : Rs w s (ls.map (vl W64)) := by
 obtain ⟨ss, h1, h2, h3⟩ := h
 refine ⟨ss, h1, by simpa using h2, fun i t ht => ⟨_, h3 i t ht, ?_⟩⟩
 have : i < ls.length := by
  have := (List.getElem?_eq_some_iff.1 ht).1
  omega
 simp [this]
theorem Rl.len {w : TW} {s : Sl} {ls : List (List Nat)} (h : Rl w s ls) : s.n = ls.length := by have := h.rs.len; simpa using this
theorem Rl.here {w : TW} {s : Sl} {ls : List (List Nat)} (h : Rl w s ls) : Rl w.here s ls := h.imp fun _ h => ⟨h.1, h.2.1, fun i t ht => (h.2.2 i t ht).here⟩
theorem Rl.ext {w w' : TW} {s : Sl} {ls : List (List Nat)} (h : Rl w s ls) (hx : Ext none_ w w') : Rl w' s ls := h.imp fun _ h => ⟨h.1.ext hx fun _ _ h => h, h.2.1, fun i t ht => (h.2.2 i t ht).ext hx⟩
theorem Rl.idx {w w' : TW} {s : Sl} {ls : List (List Nat)} (h : Rl w s ls) (hx : Ext none_ w w') {i : Int} {j : Nat} (hi : i = j) (hj : j < ls.length) {K : Addr → Sl → Prop} (hK : ∀ a t, (∀ w'', Ext none_ w w'' → w''.w.cell? a = some t.v) → Rd w t (ls.getD j []) → K a t) : ixa s i 1 (fun a => ldc .slice w' a (K a)) := by
 subst hi
 have hl := h.len
 obtain ⟨ss, h0, h5, h6⟩ := h
 have hjs : j < ss.length := by omega
 have hne : ss.map Sl.v ≠ [] := fun e => by have := congrArg List.length e; simp at this; subst this; simp at hjs
 obtain ⟨b, o, hp, _, hc⟩ := h0.2.2.2 hne
 have key : ∀ w'', Ext none_ w w'' → w''.w.cell? ((⟨b, o, none⟩ : Addr).add (j * 1)) = some (ss[j].v) := fun w'' e' => by
  obtain ⟨b', o', hp', _, hc⟩ := (h0.ext e' fun _ _ h => h).2.2.2 hne
  rw [hp] at hp'
  injection hp' with hp'
  injection hp' with h1 h2
  subst h1 h2
  rw [Nat.mul_one, Addr.add_mk]
  exact hc j _ (by simp [hjs])
 exact ⟨⟨b, o, none⟩, hp, by omega, by omega, ss[j], key w' hx, hK _ _ key (h6 j _ (by simp [hjs]))⟩
end Go.Proofs.YtjhfalgmgagdhaaGreatDoor.Zg
end

section
namespace Go.Proofs.YtjhfalgmgagdhaaGreatDoor.Zg
open Go.RowKit
theorem dg_getD {b : Nat} (hb : 2 ≤ b) (x : Nat) : ∀ k, (dg b x).getD k 0 = x / b ^ k % b := by
 intro k
 induction k generalizing x with
 | zero =>
  rcases Nat.eq_zero_or_pos x with h | h
  ·subst h; simp [dg_zero]
  ·rw [dg_pos hb h]; simp
 | succ k ih =>
  rcases Nat.eq_zero_or_pos x with h | h
  ·subst h; simp [dg_zero]
  ·rw [dg_pos hb h]
   have := ih (x / b)
   rw [Nat.div_div_eq_div_mul, Nat.mul_comm b, ← Nat.pow_succ] at this
   simpa using this
theorem ref_bit {w : TW} {s : Sl} {x i : Nat} (hs : Dr w s x) (hi : i < 32 * dz x) (hx : dz x ≤ 274877906944) : Ct Pg F.zigguratref02_bit [s.v, .int .i64 i] w none_ [.one (.int .u64)] fun (r : Int) _ => r = (x / 2 ^ i % 2 : Nat) := by
 refine Ct.zigguratref02_bit ?_
 unfold Sh.zigguratref02_bit
 refine divNi (x := i) (y := 32) rfl rfl (by omega) (by decide) ?_
 refine (Rd.here hs).ix rfl (by rw [dz_eq]; omega) ?_
 have hv := Dr.lt hs (i / 32)
 rw [dg_getD b2] at hv ⊢
 refine remN (x := i) (y := 32) rfl rfl (by decide) (bnd_wu' (y := i % 32) rfl (by rw [w64]; omega) (shrN (x := x / B32 ^ (i / 32) % B32) (n := i % 32) rfl rfl (by show _ ≤ 64; omega) ?_))
 have hlt : x / B32 ^ (i / 32) % B32 / 2 ^ (i % 32) < W64 := Nat.lt_of_le_of_lt (Nat.div_le_self _ _) (Nat.lt_trans hv (by decide))
 refine bnd_low (x := x / B32 ^ (i / 32) % B32 / 2 ^ (i % 32)) (k := 1) rfl (by decide) hlt (by decide) ?_
 refine rt1 (c := .int .u64) _ (Ext.refl _ _) ?_
 congr 1
 rw [two_split32 i, ← Nat.div_div_eq_div_mul]
 generalize x / B32 ^ (i / 32) = y
 obtain ⟨k, hk⟩ : ∃ k, k = i % 32 := ⟨_, rfl⟩
 have hk32 : k < 32 := by omega
 rw [← hk, Nat.pow_one]
 have hB : B32 = 2 ^ k * (2 * 2 ^ (31 - k)) := by
  rw [← Nat.pow_succ', ← Nat.pow_add, show B32 = 2 ^ 32 by decide]; congr 1; omega
 rw [hB, Nat.mod_mul_right_div_self, Nat.mod_mul_right_mod]
theorem ref_Bits {w : TW} {s : Sl} {x : Nat} (hs : Dr w s x) (hx : dz x ≤ 274877906944) : Ct Pg F.zigguratref02_Bits [s.v] w none_ [.one (.int .i64)] fun (r : Int) _ => ∃ n : Nat, r = n ∧ x < 2 ^ n ∧ n ≤ 32 * dz x := by
 refine Ct.zigguratref02_Bits ?_
 unfold Sh.zigguratref02_Bits
 have ls := hs.len
 refine cnd_i (fun h0 => ?_) (fun h0 => ?_)
 ·have : dz x = 0 := by simp at h0; omega
  refine rt1 (c := .int .i64) _ (Ext.refl _ _) ⟨0, rfl, ?_, by omega⟩
  rw [dz_zero] at this
  subst this
  decide
 have h0 : dz x ≠ 0 := fun h => by simp [ls, h] at h0
 have h0 : 0 < dz x := by omega
 refine bnd_wi (by omega) (by omega) (bnd_wi (by omega) (by omega) (bnd_wi (by omega) (by omega) ?_))
 refine (Rd.here hs).ix (j := dz x - 1) (by omega) (by rw [dz_eq]; omega) ?_
 have hv := Dr.lt hs (dz x - 1)
 have hgo := vl_take_getD B32 (dg B32 x) (dz x - 1)
 rw [show dz x - 1 + 1 = dz x by omega, vl_take_all (l := dg B32 x) (by rw [dz_eq]; exact Nat.le_refl _), vl_dg b2] at hgo
 have hlow := vl_lt ((dg_sm b2 x).take (dz x - 1))
 rw [List.length_take, dz_eq, Nat.min_eq_left (by omega)] at hlow
 generalize (dg B32 x).getD (dz x - 1) 0 = v at *
 generalize vl B32 ((dg B32 x).take (dz x - 1)) = low at *
 have hB : B32 ^ (dz x - 1) = 2 ^ (32 * (dz x - 1)) := by rw [Nat.pow_mul]
 refine j1 (fun (n : Int) w' => w' = w.here ∧ ∃ k : Nat, n = (32 * (dz x - 1) + k : Nat) ∧ v < 2 ^ k ∧ k ≤ 32) ?_ ?_
 ·refine lp2 (fun m (n y : Int) w' => w' = w.here ∧ ∃ k u : Nat, n = (32 * (dz x - 1) + k : Nat) ∧ y = u ∧ m = u ∧ u = v / 2 ^ k ∧ k ≤ 32) v ⟨rfl, 0, v, by omega, rfl, rfl, by simp, by omega⟩ ?_
  rintro m n y w' ⟨rfl, k, u, rfl, rfl, rfl, hu, hk⟩
  refine cnd_d (fun h => ?_) (fun h => ?_)
  ·have hk2 : k < 32 := by
    rcases Nat.lt_or_ge k 32 with h1 | h1
    ·exact h1
    ·have : k = 32 := by omega
     subst this
     rw [hu, Nat.div_eq_of_lt (by omega)] at h
     omega
   have hmW : m < W64 := by rw [hu]; exact Nat.lt_of_le_of_lt (Nat.div_le_self _ _) (Nat.lt_trans hv (by decide))
   refine bnd_wi (by omega) (by omega) (divNu (x := m) (y := 2) rfl rfl hmW (by decide) ⟨m / 2, by omega, rfl, k + 1, m / 2, by omega, rfl, rfl, ?_, by omega⟩)
   rw [hu, Nat.div_div_eq_div_mul, ← Nat.pow_succ]
  ·refine ⟨rfl, k, rfl, ?_, hk⟩
   have : m = 0 := by omega
   rw [this] at hu
   have hp := Nat.two_pow_pos k
   exact Nat.lt_of_div_eq_zero hp hu.symm
 rintro n w' ⟨rfl, k, rfl, hk, hk2⟩
 refine rt1 (c := .int .i64) _ (Ext.refl _ _) ⟨_, rfl, ?_, by omega⟩
 rw [hB] at hlow hgo
 rw [Nat.pow_add]
 have := Nat.mul_le_mul_left (2 ^ (32 * (dz x - 1))) hk
 rw [Nat.mul_succ] at this
 omega
end Go.Proofs.YtjhfalgmgagdhaaGreatDoor.Zg
end

section
namespace Go.Proofs.YtjhfalgmgagdhaaGreatDoor.Zg
open Go.RowKit
theorem twice_step {p M L L' v c s c' O T : Nat} (h1 : s + M * c' = 2 * v + c) (hL : L' + p * v = L + p * s) (hi : L + p * c = O + T) : L' + p * M * c' = O + (T + p * v) := by
 have : p * s + p * (M * c') = p * v + p * v + p * c := by rw [← Nat.mul_add, h1]; grind
 grind
theorem ref_twice {w : TW} {B : Nat} {r d : Sl} {L : List Nat} {D b : Nat} (hr : Ow w B r L) (hsm : Sm B32 L) (hL : L.length = dz D + 1) (hd : Dr w d D) (hv : vl B32 L < D) (hb : b ≤ 1) (hD : dz D ≤ 274877906944) (hne : ∀ c, d.blk = some c → ¬ r.blk = some c) :
  Ct Pg F.zigguratref02_twice [r.v, .int .u64 b, d.v] w (fun c => r.blk = some c) [.one .bool] fun (ok : Bool) w' => ok = decide (D ≤ 2 * vl B32 L + b) ∧ ∃ L', Ow w' B r L' ∧ Sm B32 L' ∧ L'.length = dz D + 1 ∧ vl B32 L' = (if D ≤ 2 * vl B32 L + b then 2 * vl B32 L + b - D else 2 * vl B32 L + b) := by
 refine Ct.zigguratref02_twice ?_
 unfold Sh.zigguratref02_twice
 have lr := hr.rd.len
 have ld := hd.len
 have hd := hd.here
 obtain ⟨T, hT⟩ : ∃ T, T = 2 * vl B32 L + b := ⟨_, rfl⟩
 rw [← hT]
 have hDp := dz_lt D
 have hTB : T < B32 ^ (dz D + 1) := by
  rw [Nat.pow_succ]
  have : 2 * B32 ^ dz D ≤ B32 ^ dz D * B32 := by rw [Nat.mul_comm]; exact Nat.mul_le_mul_left _ (by decide)
  omega
 have hdk : ∀ {w'}, Ext (fun c => r.blk = some c) w.here w' → Rd w' d (dg B32 D) := fun h => Rd.extX hd h hne
 refine j0 (fun w1 => ∃ P, Ow w1 B r P ∧ Sm B32 P ∧ P.length = dz D + 1 ∧ vl B32 P = T ∧ Ext (fun c => r.blk = some c) w.here w1) ?_ ?_
 ·refine lp2 (fun m (c i : Int) w1 => ∃ (j e : Nat) (P : List Nat), c = e ∧ i = j ∧ m = dz D + 1 - j ∧ j ≤ dz D + 1 ∧ e ≤ 1 ∧ P.length = dz D + 1 ∧ Ow w1 B r P ∧ Sm B32 P ∧ (∀ k, j ≤ k → P.getD k 0 = L.getD k 0) ∧ vl B32 P + B32 ^ j * e = vl B32 L + (vl B32 (L.take j) + b) ∧ Ext (fun c => r.blk = some c) w.here w1) (dz D + 1) ⟨0, b, L, rfl, rfl, by omega, by omega, hb, hL, hr.here, hsm, fun _ _ => rfl, by simp [vl_nil], Ext.refl _ _⟩ ?_
  rintro m c i w1 ⟨j, e, P, rfl, rfl, rfl, hj, he, hP, ho, hs, hk, hvl, hx⟩
  refine cnd_d (fun h => ?_) (fun h => ?_)
  ·have hjP : j < P.length := by omega
   have hgo := vl_take_getD B32 L j
   have hset := vl_set (b := B32) hjP
   have hlt := hs.getD (by decide) j
   refine ho.rd.ix rfl hjP ?_
   rw [show P[j] = P.getD j 0 by simp [hjP]] at hset
   rw [hk j (Nat.le_refl _)] at hset hlt ⊢
   rw [b32] at hlt
   generalize L.getD j 0 = v at *
   refine bnd_wu' (y := 2 * v) (by simp) (by rw [w64]; omega) (bnd_wu' (y := 2 * v + e) (by simp) (by rw [w64]; omega) ?_)
   refine remN (x := 2 * v + e) (y := 4294967296) rfl rfl (by decide) ?_
   have hm : (2 * v + e) % 4294967296 < B32 := Nat.mod_lt _ (by decide)
   refine ho.store (j := j) rfl hjP (bw hm) rfl fun w2 ho2 e2 => ?_
   refine divNu (x := 2 * v + e) (y := 4294967296) rfl rfl (by rw [w64]; omega) (by decide) ?_
   refine bnd_wi (by omega) (by omega) ⟨dz D + 1 - (j + 1), by omega, j + 1, _, _, rfl, by omega, rfl, by omega, by omega, by simp [hP], ho2, hs.set _ hm, fun k hk2 => ?_, ?_, hx.trans e2⟩
   ·rw [getD_set_ne (by omega)]; exact hk k (by omega)
   ·have := twice_step (Nat.mod_add_div (2 * v + e) 4294967296) (hset ((2 * v + e) % 4294967296)) hvl
    rw [Nat.pow_succ, hgo, this]
    omega
  ·have : j = dz D + 1 := by omega
   subst this
   rw [vl_take_all (l := L) (by omega)] at hvl
   refine ⟨P, ho, hs, hP, ?_, hx⟩
   have h1 : e = 0 := by
    rcases Nat.eq_zero_or_pos e with h | h
    ·exact h
    ·have := Nat.mul_le_mul_left (B32 ^ (dz D + 1)) h
     omega
   subst h1; omega
 rintro w1 ⟨P, ho, hs, hP, hPT, hx⟩
 obtain ⟨E, hE⟩ : ∃ E, E = dg B32 D ++ [0] := ⟨_, rfl⟩
 have hEl : E.length = dz D + 1 := by rw [hE]; simp [dz_eq]
 have hEv : vl B32 E = D := by rw [hE, vl_snoc, vl_dg b2]; simp
 have hEs : Sm B32 E := by rw [hE]; exact (dg_sm b2 D).snoc (by decide)
 have hEg : ∀ k, (dg B32 D).getD k 0 = E.getD k 0 := fun k => by
  rw [hE]
  rcases Nat.lt_or_ge k (dg B32 D).length with h | h
  ·simp [List.getElem?_append_left h]
  ·rw [getD_past h]
   rcases Nat.lt_or_ge k (dg B32 D ++ [0]).length with h2 | h2
   ·have : k = (dg B32 D).length := by simp at h2; omega
    subst this; simp
   ·rw [getD_past h2]
 refine bnd_wi (by omega) (by omega) ?_
 refine j1 (fun (more : Bool) w2 => w2 = w1 ∧ more = decide (D ≤ T)) ?_ ?_
 ·refine lp2 (fun m (more : Bool) (i : Int) w2 => w2 = w1 ∧ more = true ∧ ∃ j : Nat, i = j - 1 ∧ m = j ∧ j ≤ dz D + 1 ∧ vl B32 (P.drop j) = vl B32 (E.drop j)) (dz D + 1) ⟨rfl, rfl, dz D + 1, by omega, rfl, Nat.le_refl _, by rw [List.drop_of_length_le (by omega), List.drop_of_length_le (by omega)]⟩ ?_
  rintro m more i w2 ⟨rfl, rfl, j, rfl, rfl, hj, he⟩
  refine cnd_d (fun h => ?_) (fun h => ?_)
  ·have hk : m - 1 < P.length := by omega
   have hk2 : m - 1 < E.length := by omega
   have e1 : (m : Int) - 1 = (m - 1 : Nat) := by omega
   have hp : P.getD (m - 1) 0 = P[m - 1] := by simp [hk]
   have hq : E.getD (m - 1) 0 = E[m - 1] := by simp [hk2]
   have hm1 : m - 1 + 1 = m := by omega
   refine (hdk hx).at0 e1 ?_
   refine ho.rd.ix e1 hk ?_
   rw [hEg, hp, hq]
   refine cnd_i (fun h2 => ?_) (fun h2 => ?_)
   ·refine ho.rd.ix e1 hk ?_
    rw [hp]
    refine ⟨rfl, ?_⟩
    have h2 : P[m - 1] ≠ E[m - 1] := by simp at h2; omega
    rw [Bool.eq_iff_iff, decide_eq_true_iff, decide_eq_true_iff]
    rcases Nat.lt_or_ge E[m - 1] P[m - 1] with h3 | h3
    ·have := vl_lt_of_top hEs hk2 hk h3 (by rw [hm1, he]; exact Nat.le_refl _)
     rw [hEv, hPT] at this
     omega
    ·have := vl_lt_of_top hs hk hk2 (by omega) (by rw [hm1, he]; exact Nat.le_refl _)
     rw [hEv, hPT] at this
     omega
   ·have h2 : P[m - 1] = E[m - 1] := by simp at h2; omega
    refine bnd_wi (by omega) (by omega) ⟨m - 1, by omega, rfl, rfl, m - 1, by omega, rfl, by omega, ?_⟩
    rw [List.drop_eq_getElem_cons hk, List.drop_eq_getElem_cons hk2, hm1, vl_cons, vl_cons, he, h2]
  ·have : m = 0 := by omega
   subst this
   rw [List.drop_zero, List.drop_zero, hPT, hEv] at he
   exact ⟨rfl, by simp [he]⟩
 rintro more w2 ⟨rfl, rfl⟩
 refine cnd_i (fun h => ?_) (fun h => ?_)
 ·have h : ¬ D ≤ T := by simpa using h
  refine rt1 (c := .bool) _ hx ⟨by simp [h], P, ho.at, hs, hP, ?_⟩
  rw [if_neg h, hPT]
 have hDT : D ≤ T := by simpa using h
 refine j0 (fun w3 => ∃ Q, Ow w3 B r Q ∧ Sm B32 Q ∧ Q.length = dz D + 1 ∧ vl B32 Q = T - D ∧ Ext (fun c => r.blk = some c) w.here w3) ?_ ?_
 ·refine lp2 (fun m (c i : Int) w1 => ∃ (j e : Nat) (P : List Nat), c = e ∧ i = j ∧ m = dz D + 1 - j ∧ j ≤ dz D + 1 ∧ e ≤ 1 ∧ P.length = dz D + 1 ∧ Ow w1 B r P ∧ Sm B32 P ∧ vl B32 P + vl B32 ((dg B32 D).take j) = T + B32 ^ j * e ∧ Ext (fun c => r.blk = some c) w.here w1) (dz D + 1) ⟨0, 0, P, rfl, rfl, by omega, by omega, by omega, hP, ho, hs, by simp [vl_nil, hPT], hx⟩ ?_
  clear ho hs hP hPT hx P
  rintro m c i w1 ⟨j, e, P, rfl, rfl, rfl, hj, he, hP, ho, hs, hvl, hx⟩
  refine cnd_d (fun h => ?_) (fun h => ?_)
  ·have hjP : j < P.length := by omega
   have hgo := vl_take_getD B32 (dg B32 D) j
   have hset := vl_set (b := B32) hjP
   have hlt := hs.getD (by decide) j
   have hdl : (dg B32 D).getD j 0 < 4294967296 := (dg_sm b2 D).getD (by decide) j
   rw [b32] at hlt
   refine (hdk hx).add0 rfl rfl (by rw [w64]; omega) (ho.rd.ix rfl hjP ?_)
   rw [show P[j] = P.getD j 0 by simp [hjP]] at hset
   refine j1 (fun (c : Int) w3 => ∃ z e' : Nat, c = e' ∧ e' ≤ 1 ∧ z < B32 ∧ z + (dg B32 D).getD j 0 + e = P.getD j 0 + B32 * e' ∧ Ow w3 B r (P.set j z) ∧ Ext (fun c => r.blk = some c) w.here w3) ?_ ?_
   ·refine cnd_d (fun h1 => ?_) (fun h1 => ?_)
    ·refine ho.rd.ix rfl hjP ?_
     generalize P.getD j 0 = v at *
     generalize (dg B32 D).getD j 0 = u at *
     refine bnd_wu' (y := v - (e + u)) (by omega) (by rw [w64]; omega) ?_
     exact ho.store (j := j) rfl hjP (by rw [w64]; omega) rfl fun w4 ho4 e4 => ⟨v - (e + u), 0, rfl, by omega, by rw [b32]; omega, by omega, ho4, hx.trans e4⟩
    ·refine ho.rd.ix rfl hjP ?_
     generalize P.getD j 0 = v at *
     generalize (dg B32 D).getD j 0 = u at *
     refine bnd_wu' (y := 4294967296 - (e + u)) (by omega) (by rw [w64]; omega) (bnd_wu' (y := v + (4294967296 - (e + u))) (by omega) (by rw [w64]; omega) ?_)
     exact ho.store (j := j) rfl hjP (by rw [w64]; omega) rfl fun w4 ho4 e4 => ⟨v + (4294967296 - (e + u)), 1, rfl, by omega, by rw [b32]; omega, by rw [b32]; omega, ho4, hx.trans e4⟩
   rintro c w3 ⟨z, e', rfl, he', hz, heq, ho3, hx3⟩
   refine bnd_wi (by omega) (by omega) ⟨dz D + 1 - (j + 1), by omega, j + 1, _, _, rfl, by omega, rfl, by omega, he', by simp [hP], ho3, hs.set _ hz, ?_, hx3⟩
   have hset := hset z
   rw [Nat.pow_succ, hgo]
   generalize P.getD j 0 = v at *
   generalize (dg B32 D).getD j 0 = u at *
   have : B32 ^ j * z + B32 ^ j * u + B32 ^ j * e = B32 ^ j * v + B32 ^ j * B32 * e' := by
    have := congrArg (B32 ^ j * ·) heq
    simp only [Nat.mul_add] at this
    rw [Nat.mul_assoc]
    exact this
   omega
  ·have : j = dz D + 1 := by omega
   subst this
   rw [vl_take_all (l := dg B32 D) (by rw [dz_eq]; omega), vl_dg b2] at hvl
   refine ⟨P, ho, hs, hP, ?_, hx⟩
   have h1 := vl_lt hs
   rw [hP] at h1
   have h1 : e = 0 := by
    rcases Nat.eq_zero_or_pos e with h | h
    ·exact h
    ·have := Nat.mul_le_mul_left (B32 ^ (dz D + 1)) h
     omega
   subst h1; omega
 rintro w3 ⟨Q, hQ, hQs, hQl, hQv, hx3⟩
 refine rt1 (c := .bool) _ hx3 ⟨by simp [hDT], Q, hQ.at, hQs, hQl, ?_⟩
 rw [if_pos hDT, hQv]
end Go.Proofs.YtjhfalgmgagdhaaGreatDoor.Zg
end

section
namespace Go.Proofs.YtjhfalgmgagdhaaGreatDoor.Zg
open Go.RowKit
theorem vl_getD {l : List Nat} (h : Sm B32 l) (k : Nat) : l.getD k 0 = vl B32 l / B32 ^ k % B32 := by
 rcases Nat.lt_or_ge k l.length with hk | hk
 ·rw [← vl_drop_div32 h, List.drop_eq_getElem_cons hk, vl_cons, Nat.add_mul_mod_self_left, Nat.mod_eq_of_lt (h.get hk)]
  simp [hk]
 ·rw [getD_past hk, ← vl_drop_div32 h, List.drop_of_length_le hk]
  rfl
theorem dm_step {x2 X y bt : Nat} (hy : 0 < y) (hbt : bt ≤ 1) (h : x2 = 2 * X + bt) : (y ≤ 2 * (X % y) + bt → x2 % y = 2 * (X % y) + bt - y ∧ x2 / y = 2 * (X / y) + 1) ∧ (¬ y ≤ 2 * (X % y) + bt → x2 % y = 2 * (X % y) + bt ∧ x2 / y = 2 * (X / y)) := by
 have h1 := Nat.div_add_mod X y
 have h2 := Nat.mod_lt X hy
 generalize X / y = Q at *
 generalize X % y = R at *
 have e1 : y * (2 * Q) = 2 * (y * Q) := by grind
 have e2 : y * (2 * Q + 1) = 2 * (y * Q) + y := by grind
 refine ⟨fun hle => ?_, fun hle => ?_⟩
 ·have := (Nat.div_mod_unique (a := x2) (b := y) (c := 2 * R + bt - y) (d := 2 * Q + 1) hy).2 ⟨by omega, by omega⟩
  exact ⟨this.2, this.1⟩
 ·have := (Nat.div_mod_unique (a := x2) (b := y) (c := 2 * R + bt) (d := 2 * Q) hy).2 ⟨by omega, by omega⟩
  exact ⟨this.2, this.1⟩
theorem ref_DivMod' {w : TW} {s t : Sl} {x y : Nat} (hs : Dr w s x) (ht : Dr w t y) (hy : 0 < y) (hx : dz x ≤ 134217728) (hyd : dz y ≤ 134217728) : Ct Pg F.zigguratref02_DivMod [s.v, t.v] w none_ [.one .slice, .one .slice] fun (q r : Sl) w' => (Dr w' q (x / y) ∧ Dr w' r (x % y)) ∧ (∀ c, q.blk = some c → w.w.heap.size ≤ c) ∧ (r = s ∨ ∀ c, r.blk = some c → w.w.heap.size ≤ c) := by
 refine Ct.zigguratref02_DivMod ?_
 unfold Sh.zigguratref02_DivMod
 have ls := hs.len
 have lt := ht.len
 refine c1 (ref_Cmp hs.here ht.here) ?_
 rintro r w1 e1 rfl
 have hs := hs.here.ext e1
 have ht := ht.here.ext e1
 refine cnd_d (fun h0 => ?_) (fun h0 => ?_)
 ·have h0 : x < y := cmpN_neg.1 h0
  refine rt2 (c := .slice) (d := .slice) Sl.nil s e1 ?_
  rw [Nat.div_eq_of_lt h0, Nat.mod_eq_of_lt h0]
  exact ⟨⟨(Dn.nil _ 0).dr, Rd.at_ hs⟩, fun c hc => by simp [Sl.blk] at hc, .inl rfl⟩
 clear h0
 refine bnd_wi (by omega) (by omega) (mk_u64 (N := dz y + 1) (by omega) (by omega) fun r w2 hr _ e2 _ => mk_u64 (N := dz x) (by omega) (by omega) fun q w3 hq _ e3 _ => ?_)
 have br := fun c hc => (Ow.from_ hr c hc)
 refine c1 (ref_Bits ((hs.ext e2).ext e3) (by omega)) ?_
 rintro n w4 e4 ⟨n, rfl, hn, hn2⟩
 have hr := (hr.ext e3).ext e4
 have hq := hq.ext e4
 have f4 := (e2.trans e3).trans e4
 refine bnd_wi (by omega) (by omega) ?_
 have hold : ∀ {u : Sl} {z : Nat}, Dr w1 u z → ∀ c, u.blk = some c → c < w1.w.heap.size ∨ z = 0 := fun {u z} hu c hc => by
  rcases Nat.eq_zero_or_pos z with h | h
  ·exact .inr h
  ·left
   have hne : (dg B32 z).map U ≠ [] := by
    simp only [ne_eq, List.map_eq_nil_iff]
    exact fun e => by have := (dg_nil_iff b2).1 e; omega
   obtain ⟨b, o, hp, _, hcell⟩ := Rd.rv hu |>.2.2.2 hne
   have : c = b := by simp [Sl.blk, hp] at hc; omega
   subst this
   obtain ⟨v, hv⟩ : ∃ v, ((dg B32 z).map U)[0]? = some v := ⟨_, List.getElem?_eq_getElem (List.length_pos_iff.2 hne)⟩
   exact World.block_lt_of_cell? w1.w _ (hcell 0 v hv)
 refine j0 (fun w5 => ∃ R Q, Ow w5 w1.w.heap.size r R ∧ Sm B32 R ∧ vl B32 R = x % y ∧ Ow w5 w2.w.heap.size q Q ∧ Sm B32 Q ∧ vl B32 Q = x / y ∧ Ext none_ w1 w5) ?_ ?_
 ·refine lp1 (fun m (i : Int) w5 => ∃ (j : Nat) (R Q : List Nat), i = j - 1 ∧ m = j ∧ j ≤ n ∧ Ow w5 w1.w.heap.size r R ∧ Sm B32 R ∧ R.length = dz y + 1 ∧ vl B32 R = x / 2 ^ j % y ∧ Ow w5 w2.w.heap.size q Q ∧ Sm B32 Q ∧ Q.length = dz x ∧ vl B32 Q = x / 2 ^ j / y * 2 ^ j ∧ Ext none_ w1 w5) n ⟨n, _, _, by omega, rfl, Nat.le_refl _, hr, Sm.zeros (by decide) _, by simp, by rw [vl_zeros, Nat.div_eq_of_lt hn, Nat.zero_mod], hq, Sm.zeros (by decide) _, by simp, by rw [vl_zeros, Nat.div_eq_of_lt hn, Nat.zero_div, Nat.zero_mul], f4⟩ ?_
  rintro m i w5 ⟨j, R, Q, rfl, rfl, hj, hr, hrs, hrl, hrv, hq, hqs, hql, hqv, f5⟩
  refine cnd_d (fun h => ?_) (fun h => ?_)
  ·obtain ⟨i, rfl⟩ : ∃ i, m = i + 1 := ⟨m - 1, by omega⟩
   have ei : ((i + 1 : Nat) : Int) - 1 = (i : Nat) := by omega
   rw [ei]
   refine c1 (ref_bit (hs.ext f5) (by omega) (by omega)) ?_
   rintro bt w6 e6 rfl
   have hr := hr.ext e6
   have hq := hq.ext e6
   have f6 := f5.trans e6
   have hbit : x / 2 ^ i % 2 ≤ 1 := by omega
   have hxi : x / 2 ^ i = 2 * (x / 2 ^ (i + 1)) + x / 2 ^ i % 2 := by
    have h1 : x / 2 ^ (i + 1) = x / 2 ^ i / 2 := by rw [Nat.div_div_eq_div_mul, Nat.pow_succ]
    omega
   generalize x / 2 ^ i % 2 = bt at *
   generalize hX : x / 2 ^ (i + 1) = X at *
   have hXd := Nat.div_add_mod X y
   have hXm := Nat.mod_lt X hy
   refine cl_of (ref_twice (b := bt) hr hrs hrl (ht.ext f6) (by omega) hbit (by omega) fun c hc h => ?_) (fun c hc => hr.ow.2 c hc) ?_
   ·have h1 := hr.blk_le c h
    rcases hold ht c hc with h2 | h2 <;> omega
   intro ok w7 x7 hpost
   obtain ⟨hok, R', hr7, hrs7, hrl7, hrv7⟩ := hpost
   subst hok
   have hq7 := hq.extX x7 fun c hc h => by
    have h1 := (hr.from_ c h)
    have h2 := hq.blk_le c hc
    have h3 := br c h
    omega
   have f7 := f6.own x7 hr.blk_le
   rw [hrv] at hrv7 ⊢
   have hpi : 2 ^ (i + 1) = 2 ^ i * 2 := Nat.pow_succ 2 i
   refine j0 (fun w8 => ∃ R Q : List Nat, Ow w8 w1.w.heap.size r R ∧ Sm B32 R ∧ R.length = dz y + 1 ∧ vl B32 R = x / 2 ^ i % y ∧ Ow w8 w2.w.heap.size q Q ∧ Sm B32 Q ∧ Q.length = dz x ∧ vl B32 Q = x / 2 ^ i / y * 2 ^ i ∧ Ext none_ w1 w8) ?_ ?_
   ·refine cnd_d (fun hle => ?_) (fun hle => ?_)
    ·have hmod := (dm_step hy hbit hxi).1 hle
     rw [if_pos hle, ← hmod.1] at hrv7
     refine divNi (x := i) (y := 32) rfl rfl (by omega) (by decide) ?_
     have hkQ : i / 32 < Q.length := by omega
     refine hq7.rd.ix rfl hkQ ?_
     have hg := vl_getD hqs (i / 32)
     have hset := vl_set (b := B32) hkQ
     rw [show Q[i / 32] = Q.getD (i / 32) 0 by simp [hkQ]] at hset
     have hvlt := hqs.getD (by decide) (i / 32)
     obtain ⟨k, hk⟩ : ∃ k, k = i % 32 := ⟨_, rfl⟩
     have hk32 : k < 32 := by omega
     have hBk : B32 = 2 ^ (k + 1) * 2 ^ (31 - k) := by rw [← Nat.pow_add, show B32 = 2 ^ 32 by decide]; congr 1; omega
     have h2i : 2 ^ i = B32 ^ (i / 32) * 2 ^ k := by rw [hk]; exact two_split32 i
     have hdvd : 2 ^ (k + 1) ∣ Q.getD (i / 32) 0 := by
      rw [hg, hqv, hpi, h2i]
      have h3 : X / y * (B32 ^ (i / 32) * 2 ^ k * 2) / B32 ^ (i / 32) = X / y * 2 ^ (k + 1) := by
       rw [show X / y * (B32 ^ (i / 32) * 2 ^ k * 2) = B32 ^ (i / 32) * (X / y * 2 ^ (k + 1)) by rw [Nat.pow_succ]; grind]
       exact Nat.mul_div_cancel_left _ (Nat.pow_pos (by decide))
      rw [h3]
      exact (Nat.dvd_mod_iff ⟨_, hBk⟩).2 (Nat.dvd_mul_left _ _)
     have h2k : 2 ^ k < 2 ^ (k + 1) := Nat.pow_lt_pow_right (by decide) (by omega)
     have h2k32 : 2 ^ k < B32 := by rw [show B32 = 2 ^ 32 by decide]; exact Nat.pow_lt_pow_right (by decide) hk32
     have hnew : Q.getD (i / 32) 0 + 2 ^ k < B32 := by
      obtain ⟨z, hz⟩ := hdvd
      rw [hz] at hvlt ⊢
      have h4 : z < 2 ^ (31 - k) := Nat.lt_of_mul_lt_mul_left (by rw [← hBk]; exact hvlt)
      have h5 := Nat.mul_le_mul_left (2 ^ (k + 1)) h4
      rw [← hBk, Nat.mul_succ] at h5
      omega
     generalize Q.getD (i / 32) 0 = v at *
     refine remN (x := i) (y := 32) rfl rfl (by decide) (bnd_wu' (y := i % 32) rfl (by rw [w64]; omega) ?_)
     rw [← hk]
     refine shlN (x := 1) (n := k) rfl rfl (by omega) ?_
     rw [Nat.one_mul, Nat.mod_eq_of_lt (bw h2k32)]
     refine bnd_plus (k := k + 1) rfl rfl (bw hvlt) (bw h2k32) hdvd h2k ?_
     refine hq7.store (j := i / 32) rfl hkQ (bw hnew) rfl fun w8 hq8 e8 => ?_
     have hr8 := hr7.extX e8 fun c hc h => by
      have h1 := br c hc
      have h2 := hq7.blk_le c h
      omega
     refine ⟨R', _, hr8, hrs7, hrl7, hrv7, hq8, hqs.set _ hnew, by simp [hql], ?_, f7.own e8 fun b hb => Nat.le_trans e2.size (hq7.blk_le b hb)⟩
     have hset := hset (v + 2 ^ k)
     rw [hqv, hpi] at hset
     rw [hmod.2, Nat.add_mul, Nat.one_mul, h2i]
     rw [h2i] at hset
     have h6 : B32 ^ (i / 32) * (v + 2 ^ k) = B32 ^ (i / 32) * v + B32 ^ (i / 32) * 2 ^ k := Nat.mul_add _ _ _
     have h7 : X / y * (B32 ^ (i / 32) * 2 ^ k * 2) = 2 * (X / y) * (B32 ^ (i / 32) * 2 ^ k) := by grind
     omega
    ·have hmod := (dm_step hy hbit hxi).2 hle
     rw [if_neg hle, ← hmod.1] at hrv7
     refine ⟨R', Q, hr7, hrs7, hrl7, hrv7, hq7, hqs, hql, ?_, f7⟩
     rw [hqv, hmod.2, hpi]
     grind
   rintro w8 ⟨R, Q, a1, a2, a3, a4, a5, a6, a7, a8, a9⟩
   exact bnd_wi (by omega) (by omega) ⟨i, by omega, i, R, Q, by omega, rfl, by omega, a1, a2, a3, a4, a5, a6, a7, a8, a9⟩
  ·have : m = 0 := by omega
   subst this
   rw [Nat.pow_zero, Nat.div_one] at hrv hqv
   exact ⟨R, Q, hr, hrs, hrv, hq, hqs, by rw [hqv, Nat.mul_one], f5⟩
 rintro w5 ⟨R, Q, hr, hrs, hrv, hq, hqs, hqv, f5⟩
 refine nm hq hqs fun s2 w6 e6 h6 => nm (hr.ext e6) hrs fun s3 w7 e7 h7 => ?_
 rw [hqv] at h6
 rw [hrv] at h7
 exact rt2 (c := .slice) (d := .slice) _ _ (((e1.trans f5).trans e6).trans e7) ⟨⟨Rd.at_ (h6.ext e7).dr, Rd.at_ h7.dr⟩, fun c hc => Nat.le_trans e1.size (Nat.le_trans e2.size (Ow.blk_le h6 c hc)), .inr fun c hc => Nat.le_trans e1.size (Ow.blk_le h7 c hc)⟩
end Go.Proofs.YtjhfalgmgagdhaaGreatDoor.Zg
end

section
namespace Go.Proofs.YtjhfalgmgagdhaaGreatDoor.Zg
open Go.RowKit
theorem Own.nil (w : TW) (B : Nat) (e : TypeId) : Own w B e 1 Sl.nil (([] : List Sl).map Sl.v) := ⟨⟨rfl, .inl ⟨rfl, rfl⟩⟩, fun b h => by simp [Sl.blk] at h⟩
end Go.Proofs.YtjhfalgmgagdhaaGreatDoor.Zg
end

section
namespace Go.Proofs.YtjhfalgmgagdhaaGreatDoor.Zg
open Go.RowKit
def Arg (w : TW) (s : Sl) : Prop := ∃ l, Rd w s l
theorem dz_of_sz {x k : Nat} (h : sz x ≤ k) : dz x ≤ 2 * k := Nat.le_trans (dz_sz x) (Nat.mul_le_mul_left _ h)
def ArgL (w : TW) (s : Sl) : Prop := ∃ ls, Rl w s ls
theorem Ow.extB {w w' : TW} {X : Nat → Prop} {B : Nat} {s : Sl} {l : List Nat} (h : Ow w B s l) (hx : Ext X w w') (hX : ∀ b, X b → b < B) : Ow w' B s l :=
 h.extX hx fun c hc h' => by have := h.blk_le c hc; have := hX c h'; omega
end Go.Proofs.YtjhfalgmgagdhaaGreatDoor.Zg
end

section
namespace Go.Proofs.YtjhfalgmgagdhaaGreatDoor.Zg
open Go.RowKit
def TW.of (W : World) : TW := ⟨W, fun _ => False, W.heap.size, fun _ h => h.elim⟩
theorem law_of {P : Program} {f : FuncId} {args : List Value} {W : World} (h : Ct P f args (TW.of W) none_ [.one .bool] fun (r : Bool) _ => r = true) : Calls P f args.toArray W fun e w' => e = .returned (.bool true) ∧ Below W.heap.size W w' := by
 refine Calls.mono h ?_
 rintro e w' ⟨⟨r, _⟩, T', rfl, rfl, hx, hr⟩
 have hr : r = true := hr
 subst hr
 exact ⟨rfl, hx.os, hx.tape, hx.output, hx.size, fun k hk => hx.block k hk (fun h => h) (.inl hk)⟩
def IsRow (k : IntKind) (w : World) (a : Option Addr) (len cap : Nat) (zs : List Int) : Prop :=
 (a = none ∧ len = 0 ∧ cap = 0 ∧ zs = []) ∨
 ∃ x, a = some x ∧ len ≤ cap ∧ cap ≤ maxLen ∧ zs.length = cap ∧ (∀ i, i < zs.length → w.cell? (x.add i) = some (.int k (zs.getD i 0))) ∧ ∀ n ∈ zs, (Lit.int k n).wf = true
theorem u64_of {n : Int} (h : (Lit.int .u64 n).wf = true) : ∃ m : Nat, n = m ∧ m < W64 := by
 simp only [Lit.wf, Bool.and_eq_true, decide_eq_true_eq] at h
 have h1 : IntKind.u64.min = 0 := by decide
 have h2 : IntKind.u64.max = 18446744073709551615 := by decide
 rw [h1, h2] at h
 exact ⟨n.toNat, by omega, by rw [w64]; omega⟩
theorem i64_of {n : Int} (h : (Lit.int .i64 n).wf = true) : -9223372036854775808 ≤ n ∧ n ≤ 9223372036854775807 := by
 simp only [Lit.wf, Bool.and_eq_true, decide_eq_true_eq] at h
 have h1 : IntKind.i64.min = -9223372036854775808 := by decide
 have h2 : IntKind.i64.max = 9223372036854775807 := by decide
 rwa [h1, h2] at h
theorem u64s_of {zs : List Int} (h : ∀ n ∈ zs, (Lit.int .u64 n).wf = true) : ∃ l : List Nat, zs = l.map Int.ofNat ∧ Sm W64 l := by
 induction zs with
 | nil => exact ⟨[], rfl, Sm.nil _⟩
 | cons z zs ih =>
  obtain ⟨l, h1, h2⟩ := ih fun n hn => h n (List.mem_cons_of_mem _ hn)
  obtain ⟨m, h3, h4⟩ := u64_of (h z (List.mem_cons_self ..))
  exact ⟨m :: l, by simp [h1, h3], Sm.cons h4 h2⟩
theorem cell_spot {w : World} {a : Addr} {v : Value} (h : w.cell? a = some v) : a.spot = none := by
 unfold World.cell? at h
 split at h
 ·split at h
  ·cases h
  ·rename_i hs; simpa using hs
 ·cases h
theorem arg_of {W : World} {a : Option Addr} {len cap : Nat} {zs : List Int} (h : IsRow .u64 W a len cap zs) : Arg (TW.of W) ⟨a, len, cap⟩ := by
 rcases h with ⟨rfl, rfl, rfl, rfl⟩ | ⟨x, rfl, hl, hc, hz, hcell, hwf⟩
 ·exact ⟨[], Rd.nil _⟩
 ·obtain ⟨l, rfl, hs⟩ := u64s_of hwf
  have hll : l.length = cap := by simpa using hz
  refine ⟨l.take len, ⟨by simp; omega, hl, hc, fun hne => ?_⟩, hs.take _⟩
  have hpos : 0 < len := by
   rcases Nat.eq_zero_or_pos len with h | h
   ·subst h; exact absurd (by simp) hne
   ·exact h
  have h0 := hcell 0 (by simp; omega)
  have hspot := cell_spot h0
  obtain ⟨b, o, sp⟩ := x
  rw [show (Addr.add ⟨b, o, sp⟩ 0) = ⟨b, o, sp⟩ by rfl] at hspot
  simp only at hspot
  subst hspot
  refine ⟨b, o, rfl, fun h => h, fun j v hj => ?_⟩
  have hjl : j < l.length := by
   rcases Nat.lt_or_ge j l.length with h | h
   ·exact h
   ·simp only [List.map_take, List.getElem?_take] at hj
    split at hj
    ·simp [h] at hj
    ·cases hj
  have := hcell j (by simpa using hjl)
  rw [Addr.add_mk] at this
  refine Eq.trans this ?_
  simp only [List.map_take, List.getElem?_take] at hj
  split at hj
  ·rw [← hj]; simp [hjl]
  ·cases hj
end Go.Proofs.YtjhfalgmgagdhaaGreatDoor.Zg
end

section
namespace Go.Proofs.YtjhfalgmgagdhaaGreatDoor.Zg
open Go.RowKit
def IsRows (k : IntKind) (w : World) (a : Option Addr) (len cap : Nat) : Prop :=
 (a = none ∧ len = 0 ∧ cap = 0) ∨
 ∃ (x : Addr) (A : Nat → Option Addr) (L C : Nat → Nat) (Z : Nat → List Int), a = some x ∧ len ≤ cap ∧ cap ≤ maxLen ∧
  ∀ r, r < cap → w.cell? (x.add r) = some (.slice (A r) (L r) (C r)) ∧ IsRow k w (A r) (L r) (C r) (Z r)
theorem isRow_of {k : IntKind} {w : World} {a : Option Addr} {len cap : Nat} {zs : List Int} (h1 : len ≤ cap) (h2 : cap ≤ maxLen) (h3 : zs.length = cap) (h4 : ∀ n ∈ zs, (Lit.int k n).wf = true) (h5 : a = none → cap = 0) (h6 : ∀ a', a = some a' → ∀ c, c < cap → w.cell? (a'.add c) = some (.int k (zs.getD c 0))) : IsRow k w a len cap zs := by
 cases a with
 | none =>
  have := h5 rfl
  subst this
  exact .inl ⟨rfl, by omega, rfl, List.length_eq_zero_iff.1 h3⟩
 | some a => exact .inr ⟨a, rfl, h1, h2, h3, fun i hi => h6 a rfl i (by omega), h4⟩
theorem argL_of {W : World} {a : Option Addr} {len cap : Nat} (h : IsRows .u64 W a len cap) : ArgL (TW.of W) ⟨a, len, cap⟩ := by
 rcases h with ⟨rfl, rfl, rfl⟩ | ⟨x, A, L, C, Z, rfl, hl, hc, hr⟩
 ·exact ⟨[], [], ⟨rfl, Nat.le_refl _, by decide, fun h => absurd rfl h⟩, rfl, fun i t h => by simp at h⟩
 ·have hrow : ∀ r, ∃ l, r < len → Rd (TW.of W) ⟨A r, L r, C r⟩ l := fun r => by
   by_cases h : r < len
   ·obtain ⟨l, hl⟩ := arg_of (hr r (by omega)).2
    exact ⟨l, fun _ => hl⟩
   ·exact ⟨[], fun h' => absurd h' h⟩
  refine ⟨(List.range len).map fun r => Classical.choose (hrow r), (List.range len).map fun r => ⟨A r, L r, C r⟩, ⟨by simp, hl, hc, fun hne => ?_⟩, by simp, fun i t hi => ?_⟩
  ·have hpos : 0 < len := by
    rcases Nat.eq_zero_or_pos len with h | h
    ·subst h; exact absurd (by simp) hne
    ·exact h
   have h0 := (hr 0 (by omega)).1
   have hspot := cell_spot h0
   obtain ⟨b, o, sp⟩ := x
   rw [show (Addr.add ⟨b, o, sp⟩ 0) = ⟨b, o, sp⟩ by rfl] at hspot
   simp only at hspot
   subst hspot
   refine ⟨b, o, rfl, fun h => h, fun j v hj => ?_⟩
   have hjl : j < len := by
    have := (List.getElem?_eq_some_iff.1 hj).1
    simpa using this
   have := (hr j (by omega)).1
   rw [Addr.add_mk] at this
   refine Eq.trans this ?_
   rw [← hj]
   simp [hjl]
  ·have hil : i < len := by
    have := (List.getElem?_eq_some_iff.1 hi).1
    simpa using this
   have := Classical.choose_spec (hrow i) hil
   simp [hil] at hi
   subst hi
   simpa [hil] using this
end Go.Proofs.YtjhfalgmgagdhaaGreatDoor.Zg
end
