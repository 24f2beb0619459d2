/- A part of the proofs of this seat's laws: words, lemmas or contracts of its functions. -/
import Derived.Test.YthhohfgpaihngaaZgL1
import Derived.Test.YthhohfgpaihngaaZgPzigguratref02
set_option linter.unusedVariables false
set_option linter.unusedSimpArgs false
set_option linter.unnecessarySimpa false
namespace Go.Proofs.Ythhohfgpaihngaa.Zg
open Go.RowKit

/-- The base of the reference's digits. -/
abbrev B32 : Nat := 4294967296
theorem b32 : B32 = 4294967296 := rfl
theorem b2 : 2 ≤ B32 := by decide
theorem bw {x : Nat} (h : x < B32) : x < W64 := Nat.lt_trans h (by decide)
theorem Sm.up {l : List Nat} (h : Sm B32 l) : Sm W64 l := fun x hx => bw (h x hx)

/-- One's own slice that holds the digits of a number. -/
def Dn (w : TW) (B : Nat) (s : Sl) (x : Nat) : Prop := Ow w B s (dg B32 x)
/-- A slice that holds the digits of a number. -/
def Dr (w : TW) (s : Sl) (x : Nat) : Prop := Rd w s (dg B32 x)
/-- How many digits. -/
def dz (x : Nat) : Nat := (dg B32 x).length
theorem dz_eq (x : Nat) : (dg B32 x).length = dz x := rfl
theorem dz_zero {x : Nat} : dz x = 0 ↔ x = 0 := dg_length_zero b2
theorem dz_mono {x y : Nat} (h : x ≤ y) : dz x ≤ dz y := dg_length_mono b2 h
theorem dz_pow {x k : Nat} (h : x < B32 ^ k) : dz x ≤ k := dg_length_le b2 h
theorem dz_lt (x : Nat) : x < B32 ^ dz x := dg_lt_pow b2 x
theorem dz_sz (x : Nat) : dz x ≤ 2 * sz x := by
  refine dz_pow ?_
  rw [Nat.pow_mul]
  exact lt_sz x
theorem Dn.dr {w : TW} {B : Nat} {s : Sl} {x : Nat} (h : Dn w B s x) : Dr w s x := Ow.rd h
theorem Dn.ext {w w' : TW} {B : Nat} {s : Sl} {x : Nat} (h : Dn w B s x) (hx : Ext none_ w w') : Dn w' B s x := Ow.ext h hx
theorem Dr.ext {w w' : TW} {s : Sl} {x : Nat} (h : Dr w s x) (hx : Ext none_ w w') : Dr w' s x := Rd.ext h hx
theorem Dr.here {w : TW} {s : Sl} {x : Nat} (h : Dr w s x) : Dr w.here s x := Rd.here h
theorem Dn.at {w : TW} {B k : Nat} {s : Sl} {x : Nat} (h : Dn w B s x) : Dn (w.at k) B s x := Ow.at h
theorem Dn.less {w : TW} {B B' : Nat} {s : Sl} {x : Nat} (h : Dn w B s x) (hB : B' ≤ B) : Dn w B' s x := Ow.less h hB
theorem Dr.len {w : TW} {s : Sl} {x : Nat} (h : Dr w s x) : s.n = dz x := Rd.len h
theorem Dr.lt {w : TW} {s : Sl} {x : Nat} (_ : Dr w s x) (j : Nat) : (dg B32 x).getD j 0 < 4294967296 := (dg_sm b2 x).getD (by decide) j
theorem Dn.nil (w : TW) (B : Nat) : Dn w B Sl.nil 0 := by have := Ow.nil w B; rwa [← dg_zero B32] at this
theorem Dr.nil (w : TW) : Dr w Sl.nil 0 := (Dn.nil w 0).dr

/-- append(s, x), s made since w0. -/
theorem push {w0 w : TW} {s : Sl} {l : List Nat} (h : Ow w w0.w.heap.size s l) (e : Ext none_ w0 w) {y : Int} {x : Nat} (hy : y = x) (hx : x < W64) (hn : l.length + 1 ≤ 1099511627776) {K : Sl → TW → Prop}
    (hK : ∀ s' w', Ow w' w0.w.heap.size s' (l ++ [x]) → Ext none_ w0 w' → K s' w') : nwb w [.int .u64 y] T.uint64 fun b w' => apd w' T.uint64 1 8 s ⟨some ⟨b, 0, none⟩, 1, 1⟩ K := by
  refine nw_u64 hy hx fun b w1 h1 e1 => ?_
  have h := h.ext e1
  refine h.cat h1.rd (Nat.le_trans e.size e1.size) (by simpa using hn) fun s' w' h' e' _ => hK s' w' h' ((e.trans e1).own e' h.blk_le)

theorem Rd.add0 {w : TW} {s : Sl} {l : List Nat} (h : Rd w s l) {x c : Int} {j d : Nat} (hx : x = j) (hc : c = d) (hlt : d + l.getD j 0 < W64) {K : Int → TW → Prop} (hK : K (d + l.getD j 0 : Nat) w) :
    Jn [.int .u64] (fun J => cond (decide (x < (s.n : Int))) (ixa s x 1 fun a => ldc (.int .u64) w a fun (v : Int) => bnd (wu (c + v)) fun n => J n w) (J c w)) K := by
  refine jn_all ?_
  have hl := h.len
  subst hx hc
  refine cnd_d (fun h0 => ?_) (fun h0 => ?_)
  · exact h.ix rfl (by omega) (bnd_wu' (by simp) hlt hK)
  · rw [getD_past (by omega), Nat.add_zero] at hK
    exact hK

theorem ref_norm {w : TW} {s : Sl} {l : List Nat} (h : Rd w s l) (hs : Sm B32 l) : Ct Pg F.zigguratref02_norm [s.v] w none_ [.one .slice] fun (s' : Sl) _ => s' = s.cut 0 (dz (vl B32 l)) 1 := by
  refine Ct.zigguratref02_norm ?_
  unfold Sh.zigguratref02_norm
  have h := h.here
  have hl := h.len
  have hc := h.cap
  refine j1 (fun (k : Int) w' => Ext none_ w.here w' ∧ k = (dz (vl B32 l) : Nat)) ?_ ?_
  · refine lp1 (fun m (k : Int) w' => ∃ j : Nat, k = j ∧ m = j ∧ j ≤ l.length ∧ vl B32 (l.drop j) = 0 ∧ Ext none_ w.here w') l.length ⟨l.length, by rw [hl], rfl, Nat.le_refl _, by simp [vl], Ext.refl _ _⟩ ?_
    rintro m k w' ⟨j, rfl, rfl, hj, hz, hx⟩
    refine j1 (fun (b : Bool) w'' => w'' = w' ∧ b = decide (∃ h : 0 < m, l[m - 1] = 0)) ?_ ?_
    · refine cnd_d (fun h0 => ?_) (fun h0 => ?_)
      · refine bnd_wi (by omega) (by omega) ((h.ext hx).idx (j := m - 1) (by omega) (by omega) ⟨rfl, ?_⟩)
        rw [Bool.eq_iff_iff]
        simp
        exact ⟨fun h => ⟨by omega, h⟩, fun ⟨_, h⟩ => h⟩
      · exact ⟨rfl, by simp; omega⟩
    · rintro b w'' ⟨rfl, rfl⟩
      refine cnd_d (fun h0 => ?_) (fun h0 => ?_)
      · obtain ⟨h1, h2⟩ := h0
        refine bnd_wi (by omega) (by omega) ⟨m - 1, by omega, m - 1, by omega, rfl, by omega, ?_, hx⟩
        have := vl_split B32 (l.drop (m - 1)) 1 (by simp; omega)
        rw [List.drop_drop, show m - 1 + 1 = m by omega, hz] at this
        rw [this, List.drop_eq_getElem_cons (by omega : m - 1 < l.length), List.take_succ_cons]
        simp [vl, h2]
      · refine ⟨hx, ?_⟩
        rw [dz, dg_len_of b2 hs hj hz (fun h1 h2 => h0 ⟨h1, h2⟩)]
        simp [hj]
  · rintro k w' ⟨hx, rfl⟩
    have h1 : dz (vl B32 l) ≤ l.length := dg_length_vl b2 hs
    exact slc_of (l := 0) (h := dz (vl B32 l)) rfl rfl (Nat.zero_le _) (by omega) (rt1 (c := .slice) _ hx rfl)

/-- A call of the reference's norm. -/
theorem nm {w : TW} {B : Nat} {s : Sl} {l : List Nat} {K : Sl → TW → Prop} (h : Ow w B s l) (hs : Sm B32 l) (hK : ∀ s' w', Ext none_ w w' → Dn w' B s' (vl B32 l) → K s' w') : cl Pg F.zigguratref02_norm [s.v] w [.one .slice] K := by
  refine c1 (ref_norm h.rd hs) ?_
  rintro s' w' hx rfl
  refine hK _ _ hx ?_
  have := (h.cut0 (n := dz (vl B32 l)) (dg_length_vl b2 hs)).ext hx
  rwa [dz, ← (dg_vl b2 hs).1] at this

theorem Sm.snoc {b x : Nat} {l : List Nat} (h : Sm b l) (hx : x < b) : Sm b (l ++ [x]) := h.append (Sm.cons hx (Sm.nil _))

/-- make([]uint64, 0, c). -/
theorem mk_0 {w : TW} {c : Int} {m : Nat} {K : Sl → TW → Prop} (hc : c = m) (hm : m ≤ 17592186044416) (h : ∀ s w', Ow w' w.w.heap.size s [] → Ext none_ w w' → K s w') : mks w 0 c T.uint64 8 [.int .u64 0] K :=
  mk_cap (n := 0) rfl hc (Nat.zero_le _) hm fun _ _ hf _ _ e _ => h _ _ (hf.cut0 (n := 0) (Nat.zero_le _)) e

/-- a[i], read; and where it lies it stays. -/
theorem Rd.ixk {w0 w : TW} {s : Sl} {l : List Nat} (h : Rd w0 s l) (e : Ext none_ w0 w) {i : Int} {j : Nat} (hi : i = j) (hj : j < l.length) {K : Addr → Int → Prop} (hK : ∀ a, (∀ w', Ext none_ w0 w' → w'.w.cell? a = some (U (l.getD j 0))) → K a (l.getD j 0 : Nat)) : ixa s i 1 (fun a => ldc (.int .u64) w a (K a)) := by
  subst hi
  have hne : l.map U ≠ [] := fun e => by have := congrArg List.length e; simp at this; subst this; simp at hj
  have hl := h.len
  obtain ⟨b, o, hp, _, _⟩ := h.rv.2.2.2 hne
  have key : ∀ w', Ext none_ w0 w' → w'.w.cell? ((⟨b, o, none⟩ : Addr).add (j * 1)) = some (U (l.getD j 0)) := fun w' e' => by
    obtain ⟨b', o', hp', _, hc⟩ := (h.ext e').rv.2.2.2 hne
    rw [hp] at hp'
    injection hp' with hp'
    injection hp' with h1 h2
    subst h1 h2
    rw [Nat.mul_one, Addr.add_mk]
    exact hc j _ (by simp [hj])
  exact ⟨⟨b, o, none⟩, hp, by omega, by omega, _, key w e, hK _ key⟩
theorem hld2 {w : TW} {a b : Addr} {u v : Value} {K : Prop} (h1 : w.w.cell? a = some u) (h2 : w.w.cell? b = some v) (hK : K) : hld w [(a, u), (b, v)] K := ⟨fun y hy => by
  simp only [List.mem_cons, List.not_mem_nil, or_false] at hy
  rcases hy with rfl | rfl
  · exact h1
  · exact h2, hK⟩
theorem hld1 {w : TW} {a : Addr} {u : Value} {K : Prop} (h1 : w.w.cell? a = some u) (hK : K) : hld w [(a, u)] K := ⟨fun y hy => by
  simp only [List.mem_cons, List.not_mem_nil, or_false] at hy
  subst hy
  exact h1, hK⟩

theorem ref_From {w : TW} {s : Sl} {x : Nat} (hs : Nt w s x) (hn : s.n ≤ 274877906944) : Ct Pg F.zigguratref02_From [s.v] w none_ [.one .slice] fun (s' : Sl) w' => Dn w' w.w.heap.size s' x := by
  obtain ⟨l, hs, rfl⟩ := hs
  refine Ct.zigguratref02_From ?_
  unfold Sh.zigguratref02_From
  have hl := hs.len
  have hs := hs.here
  refine bnd_wi (by omega) (by omega) (mk_0 (m := 2 * s.n) (by omega) (by omega) fun o w1 ho e1 => ?_)
  refine j1 (fun (o : Sl) w2 => ∃ P, Ow w2 w.here.w.heap.size o P ∧ Sm B32 P ∧ vl B32 P = vl W64 l ∧ Ext none_ w.here w2) ?_ ?_
  · refine lp2 (fun m (o : Sl) (i : Int) w2 => ∃ (j : Nat) (P : List Nat), i = j ∧ m = l.length - j ∧ j ≤ l.length ∧ P.length = 2 * j ∧ Ow w2 w.here.w.heap.size o P ∧ Sm B32 P ∧ vl B32 P = vl W64 (l.take j) ∧ Ext none_ w.here w2) l.length ⟨0, [], rfl, by omega, by omega, rfl, ho, Sm.nil _, by simp [vl_nil], e1⟩ ?_
    rintro m o i w2 ⟨j, P, rfl, rfl, hj, hP, ho, hsm, hv, e2⟩
    refine cnd_d (fun h0 => ?_) (fun h0 => ?_)
    · have hj1 : j < l.length := by omega
      have hb := hs.lt j
      have hgo := vl_take_getD W64 l j
      refine hs.ixk e2.drew rfl hj1 fun a1 k1 => remN (x := l.getD j 0) (y := 4294967296) rfl rfl (by decide) (hs.ixk e2.drew rfl hj1 fun a2 k2 => divNu (x := l.getD j 0) (y := 4294967296) rfl rfl hb (by decide) ?_)
      generalize l.getD j 0 = v at *
      have hm : v % 4294967296 < B32 := Nat.mod_lt _ (by decide)
      have hd : v / 4294967296 < B32 := Nat.div_lt_of_lt_mul (by rw [b32]; omega)
      refine nw_u64s (l := [v % 4294967296, v / 4294967296]) 2 rfl (Sm.cons (bw hm) (Sm.cons (bw hd) (Sm.nil _))) (by decide) fun b w3 h3 e3 => ?_
      have e23 := e2.drew.trans e3
      refine hld2 (k2 _ e23) (k1 _ e23) ?_
      have ho := Ow.ext ho.drew e3
      refine ho.cat h3.rd e23.size (by simp [hP]; omega) fun s1 w4 h4 e4 _ => ?_
      have e4 := e23.own e4 ho.blk_le
      refine hld2 (k2 _ e4) (k1 _ e4) ?_
      refine bnd_wi (by omega) (by omega) ⟨l.length - (j + 1), by omega, j + 1, _, by omega, rfl, hj1, by simp [hP]; omega, h4, hsm.append (Sm.cons hm (Sm.cons hd (Sm.nil _))), ?_, e4⟩
      rw [vl_append, hP, hv, hgo, vl_cons, vl_one, show B32 ^ (2 * j) = W64 ^ j by rw [Nat.pow_mul]; rfl, b32, Nat.mod_add_div]
    · have : j = l.length := by omega
      subst this
      rw [List.take_of_length_le (Nat.le_refl _)] at hv
      exact ⟨P, ho, hsm, hv, e2⟩
  · rintro o w2 ⟨P, ho, hsm, hv, e2⟩
    refine nm ho hsm fun s' w' e' h' => rt1 (c := .slice) _ (e2.trans e') ?_
    rw [hv] at h'
    exact h'.at
end Go.Proofs.Ythhohfgpaihngaa.Zg
