/- A part of the proofs of this seat's laws: words, lemmas or contracts of its functions. -/
import Derived.Test.YthhohfgpaihngaaZgU
set_option linter.unusedVariables false
set_option linter.unusedSimpArgs false
set_option linter.unnecessarySimpa false
namespace Go.Proofs.Ythhohfgpaihngaa.Zg
open Go.RowKit

/-! ### Numbers -/
/-- How many words a number has. -/
def sz (x : Nat) : Nat := (dg W64 x).length
theorem sz_pow {x k : Nat} (h : x < W64 ^ k) : sz x ≤ k := dg_length_le W2 h
theorem lt_sz (x : Nat) : x < W64 ^ sz x := dg_lt_pow W2 x
theorem pow_lt {x k : Nat} (h : sz x ≤ k) : x < W64 ^ k := Nat.lt_of_lt_of_le (lt_sz x) (Nat.pow_le_pow_right (by decide) h)
theorem sz_mono {x y : Nat} (h : x ≤ y) : sz x ≤ sz y := dg_length_mono W2 h
theorem dg_len (x : Nat) : (dg W64 x).length = sz x := rfl
theorem sz_zero {x : Nat} : sz x = 0 ↔ x = 0 := dg_length_zero W2
theorem sz_vl {l : List Nat} (h : Sm W64 l) : sz (vl W64 l) ≤ l.length := dg_length_vl W2 h
theorem sz_le {x : Nat} (h : 0 < x) : W64 ^ (sz x - 1) ≤ x := pow_le_of_dg W2 h
theorem sz_lt {x k : Nat} : sz x ≤ k ↔ x < W64 ^ k := ⟨pow_lt, sz_pow⟩
theorem sz_add (x y : Nat) : sz (x + y) ≤ max (sz x) (sz y) + 1 := by
  refine sz_pow ?_
  have h1 : x < W64 ^ max (sz x) (sz y) := pow_lt (by omega)
  have h2 : y < W64 ^ max (sz x) (sz y) := pow_lt (by omega)
  rw [Nat.pow_succ]
  have : 2 * W64 ^ max (sz x) (sz y) ≤ W64 ^ max (sz x) (sz y) * W64 := by rw [Nat.mul_comm]; exact Nat.mul_le_mul_left _ W2
  omega
theorem sz_mul (x y : Nat) : sz (x * y) ≤ sz x + sz y := by
  refine sz_pow ?_
  rw [Nat.pow_add]
  exact Nat.mul_lt_mul'' (lt_sz x) (lt_sz y)
theorem sz_word {x : Nat} (h : x < W64) : sz x ≤ 1 := sz_pow (by simpa using h)
theorem sz_word' {x : Nat} (h : x < W64) (h0 : 0 < x) : sz x = 1 := by
  have := sz_word h
  have := (not_congr (sz_zero (x := x))).2 (by omega)
  omega
theorem sz_eq {x k : Nat} (h1 : W64 ^ k ≤ x) (h2 : x < W64 ^ (k + 1)) : sz x = k + 1 := by
  have h3 := sz_pow h2
  rcases Nat.lt_or_ge k (sz x) with h | h
  · omega
  · have := pow_lt h; omega

theorem vl_take_getD (b : Nat) (l : List Nat) (k : Nat) : vl b (l.take (k + 1)) = vl b (l.take k) + b ^ k * l.getD k 0 := by
  rcases Nat.lt_or_ge k l.length with h | h
  · rw [vl_take_succ h]; simp [h]
  · rw [List.take_of_length_le (by omega), List.take_of_length_le h]; simp [h]
theorem Sm.getD {b : Nat} {l : List Nat} (hb : 0 < b) (h : Sm b l) (k : Nat) : l.getD k 0 < b := by
  rcases Nat.lt_or_ge k l.length with hk | hk
  · have := h.get hk; simpa [hk] using this
  · simpa [hk] using hb
theorem getD_past {l : List Nat} {k : Nat} (h : l.length ≤ k) : l.getD k 0 = 0 := by simp [h]
theorem sz0 : sz 0 = 0 := sz_zero.2 rfl
theorem vl_take_all {b : Nat} {l : List Nat} {k : Nat} (h : l.length ≤ k) : vl b (l.take k) = vl b l := by rw [List.take_of_length_le h]
theorem vl_one {b x : Nat} : vl b [x] = x := by simp [vl]
theorem vl_snoc (b : Nat) (l : List Nat) (x : Nat) : vl b (l ++ [x]) = vl b l + b ^ l.length * x := by rw [vl_append, vl_one]

theorem one_w {d : Nat} (h : d ≤ 1) : d < W64 := Nat.lt_of_le_of_lt h (by decide)
theorem w64 : W64 = 18446744073709551616 := rfl

/-- A slice that holds a number. -/
def Nt (w : TW) (s : Sl) (x : Nat) : Prop := ∃ l, Rd w s l ∧ vl W64 l = x
/-- One's own slice that holds a number, without leading zeros. -/
def On (w : TW) (B : Nat) (s : Sl) (x : Nat) : Prop := Ow w B s (dg W64 x)
theorem On.nt {w : TW} {B : Nat} {s : Sl} {x : Nat} (h : On w B s x) : Nt w s x := ⟨_, h.rd, vl_dg W2 x⟩
theorem Rd.nt {w : TW} {s : Sl} {l : List Nat} (h : Rd w s l) : Nt w s (vl W64 l) := ⟨l, h, rfl⟩
theorem Nt.extX {w w' : TW} {X : Nat → Prop} {s : Sl} {x : Nat} (h : Nt w s x) (hx : Ext X w w') (hX : ∀ b, s.blk = some b → ¬ X b) : Nt w' s x := h.imp fun _ h => ⟨h.1.extX hx hX, h.2⟩
theorem Nt.ext {w w' : TW} {s : Sl} {x : Nat} (h : Nt w s x) (hx : Ext none_ w w') : Nt w' s x := h.imp fun _ h => ⟨h.1.ext hx, h.2⟩
theorem Nt.here {w : TW} {s : Sl} {x : Nat} (h : Nt w s x) : Nt w.here s x := h.imp fun _ h => ⟨h.1.here, h.2⟩
theorem Nt.drew {w : TW} {s : Sl} {x : Nat} (h : Nt w s x) : Nt w.drew s x := h.imp fun _ h => ⟨h.1.drew, h.2⟩
theorem On.ext {w w' : TW} {B : Nat} {s : Sl} {x : Nat} (h : On w B s x) (hx : Ext none_ w w') : On w' B s x := Ow.ext h hx
theorem On.extX {w w' : TW} {X : Nat → Prop} {B : Nat} {s : Sl} {x : Nat} (h : On w B s x) (hx : Ext X w w') (hX : ∀ b, s.blk = some b → ¬ X b) : On w' B s x := Ow.extX h hx hX
theorem On.less {w : TW} {B B' : Nat} {s : Sl} {x : Nat} (h : On w B s x) (hB : B' ≤ B) : On w B' s x := Ow.less h hB
theorem On.len {w : TW} {B : Nat} {s : Sl} {x : Nat} (h : On w B s x) : s.n = sz x := h.rd.len
theorem Nt.nil (w : TW) : Nt w Sl.nil 0 := ⟨[], Rd.nil w, rfl⟩
theorem Ow.nil (w : TW) (B : Nat) : Ow w B Sl.nil [] := ⟨⟨⟨rfl, .inl ⟨rfl, rfl⟩⟩, fun b h => by simp [Sl.blk] at h⟩, Sm.nil _⟩
theorem On.nil (w : TW) (B : Nat) : On w B Sl.nil 0 := by have := Ow.nil w B; rwa [← dg_zero W64] at this
theorem Ow.at {w : TW} {B k : Nat} {s : Sl} {l : List Nat} (h : Ow w B s l) : Ow (w.at k) B s l := ⟨⟨h.ow.1, h.ow.2⟩, h.sm⟩
theorem On.at {w : TW} {B k : Nat} {s : Sl} {x : Nat} (h : On w B s x) : On (w.at k) B s x := Ow.at h
theorem Rd.at_ {w : TW} {k : Nat} {s : Sl} {l : List Nat} (h : Rd w s l) : Rd (w.at k) s l := ⟨h.rv, h.sm⟩
theorem Nt.at {w : TW} {k : Nat} {s : Sl} {x : Nat} (h : Nt w s x) : Nt (w.at k) s x := h.imp fun _ h => ⟨h.1.at_, h.2⟩
theorem Ow.here {w : TW} {B : Nat} {s : Sl} {l : List Nat} (h : Ow w B s l) : Ow w.here B s l := ⟨⟨h.ow.1, h.ow.2⟩, h.sm⟩
theorem Ow.drew {w : TW} {B : Nat} {s : Sl} {l : List Nat} (h : Ow w B s l) : Ow w.drew B s l := ⟨⟨h.ow.1, h.ow.2⟩, h.sm⟩

/-! ### Words in order -/
theorem Rd.ix {w : TW} {s : Sl} {l : List Nat} (h : Rd w s l) {i : Int} {j : Nat} (hi : i = j) (hj : j < l.length) {K : Int → Prop} (hK : K (l.getD j 0 : Nat)) : ixa s i 1 (fun a => ldc (.int .u64) w a K) := by
  rw [show l.getD j 0 = l[j] by simp [hj]] at hK
  exact h.idx hi hj hK
theorem Rd.lt {w : TW} {s : Sl} {l : List Nat} (h : Rd w s l) (j : Nat) : l.getD j 0 < 18446744073709551616 := h.sm.getD (by decide) j
/-- s[j], or 0 past its end. -/
theorem Rd.at0 {w : TW} {s : Sl} {l : List Nat} (h : Rd w s l) {x : Int} {j : Nat} (hx : x = j) {K : Int → TW → Prop} (hK : K (l.getD j 0 : Nat) w) :
    Jn [.int .u64] (fun J => cond (decide (x < (s.n : Int))) (ixa s x 1 fun a => ldc (.int .u64) w a fun v => J v w) (J 0 w)) K := by
  refine jn_all ?_
  have hl := h.len
  subst hx
  refine cnd_d (fun h0 => ?_) (fun h0 => ?_)
  · have h0 : j < l.length := by omega
    refine h.idx rfl h0 ?_
    rw [show l[j] = l.getD j 0 by simp [h0]]
    exact hK
  · have h0 : l.length ≤ j := by omega
    rw [show l.getD j 0 = 0 by simp [h0]] at hK
    exact hK

theorem set_snoc (P : List Nat) (k x : Nat) : (P ++ List.replicate (k + 1) 0).set P.length x = (P ++ [x]) ++ List.replicate k 0 := by
  simp [List.replicate_succ]

/-- The next word of a row that is filled from its beginning. -/
theorem Ow.put {w : TW} {B : Nat} {s : Sl} {P : List Nat} {k : Nat} (h : Ow w B s (P ++ List.replicate (k + 1) 0)) {i : Int} {x : Nat} (hi : i = P.length) (hx : x < W64) {y : Int} (hy : y = x) {K : TW → Prop}
    (hK : ∀ w', Ow w' B s ((P ++ [x]) ++ List.replicate k 0) → Ext (fun b => s.blk = some b) w w' → K w') : ixa s i 1 (fun a => stc w a (.int .u64 y) K) := by
  refine h.store hi (by simp) hx hy fun w' h' hx' => hK w' ?_ hx'
  rwa [set_snoc] at h'

theorem Rd.trim {w : TW} {s : Sl} {l : List Nat} (h : Rd w s l) : Rd w (s.cut 0 (sz (vl W64 l)) 1) (dg W64 (vl W64 l)) := by
  have := h.cut (Nat.zero_le _) (sz_vl h.sm)
  rwa [List.drop_zero, sz, ← (dg_vl W2 h.sm).1] at this

theorem Ow.cut0 {w : TW} {B : Nat} {s : Sl} {l : List Nat} (h : Ow w B s l) {n : Nat} (hn : n ≤ l.length) : Ow w B (s.cut 0 n 1) (l.take n) := by
  have hl := h.rd.len
  rcases h.ow.form with ⟨rfl, hv⟩ | ⟨b, cur, hp, hB, hg, hnc, hcm, hcs, ht, hV⟩
  · have : l = [] := by simpa using hv
    subst this
    have : n = 0 := by simpa using hn
    subst this
    simpa [Sl.cut] using Ow.nil w B
  · have hb : (s.cut 0 n 1).p = some ⟨b, 0, none⟩ := by
      simp only [Sl.cut]
      split
      · exact hp
      · simp [hp, Addr.add_mk]
    refine ⟨⟨⟨by simp [Sl.cut]; omega, .inr ⟨b, s.c, cur, ?_, hB, hg, by simp [Sl.cut]; omega, hcm, hcs, ?_⟩⟩, fun c hc => ?_⟩, h.sm.take n⟩
    · rw [Sl.v, hb]; simp [Sl.cut]
    · simp only [Sl.cut, Nat.sub_zero, List.map_take, ← ht, List.take_take, Nat.mul_one]
      congr 1; omega
    · simp [Sl.blk, hb] at hc; subst hc; exact hV
theorem Ow.trim {w : TW} {B : Nat} {s : Sl} {l : List Nat} (h : Ow w B s l) : On w B (s.cut 0 (sz (vl W64 l)) 1) (vl W64 l) := by
  have := h.cut0 (sz_vl h.sm)
  rwa [sz, ← (dg_vl W2 h.sm).1] at this

theorem map_u_one (l : List Nat) : ∀ v ∈ l.map U, v.oneCell' = true := by
  intro v hv
  obtain ⟨x, _, rfl⟩ := List.mem_map.1 hv
  rfl

/-- append(s, x...), s one's own. -/
theorem Ow.cat {w : TW} {B : Nat} {s x : Sl} {l m : List Nat} (h : Ow w B s l) (k : Rd w x m) (hB : B ≤ w.w.heap.size) (hn : l.length + m.length ≤ 1099511627776) {K : Sl → TW → Prop}
    (hK : ∀ s' w', Ow w' B s' (l ++ m) → Ext (fun b => s.blk = some b) w w' → (∀ b, s'.blk = some b → s.blk = some b ∨ w.w.heap.size ≤ b) → K s' w') : apd w T.uint64 1 8 s x K := by
  have h1 := h.rd.len
  have h2 := k.len
  refine ⟨B, l.map U, m.map U, h.ow, k.rv, hB, map_u_one m, by simp only [maxLen]; omega, by omega, fun s' w' ho _ hx hb => hK s' w' ⟨by simpa using ho, h.sm.append k.sm⟩ hx hb⟩

/-- append([]uint64(nil), x...) -/
theorem Rd.copy {w : TW} {x : Sl} {m : List Nat} (k : Rd w x m) {B : Nat} (hB : B ≤ w.w.heap.size) (hn : m.length ≤ 1099511627776) {K : Sl → TW → Prop}
    (hK : ∀ s' w', Ow w' B s' m → Ext none_ w w' → (∀ b, s'.blk = some b → w.w.heap.size ≤ b) → K s' w') : apd w T.uint64 1 8 Sl.nil x K :=
  (Ow.nil w B).cat k hB (by simpa using hn) fun s' w' h hx hb => hK s' w' h (hx.mono fun b _ h => by simp [Sl.blk] at h) (fun b h => (hb b h).elim (fun h => by simp [Sl.blk] at h) id)

/-- What a function writes into its own blocks. -/
theorem Ext.own {X : Nat → Prop} {w0 w w' : TW} (h : Ext none_ w0 w) (k : Ext X w w') (hX : ∀ b, X b → w0.w.heap.size ≤ b) : Ext none_ w0 w' := h.mine k hX
theorem Ow.blk_le {w : TW} {B : Nat} {s : Sl} {l : List Nat} (h : Ow w B s l) : ∀ b, s.blk = some b → B ≤ b := fun b hb => (h.from_ b hb).1
/-- What is older than a block is not it. -/
theorem old_ne {w : TW} {s : Sl} {l : List Nat} {B : Nat} (h : Ow w B s l) {t : Sl} (ht : ∀ b, t.blk = some b → b < B) : ∀ b, t.blk = some b → ¬ s.blk = some b := fun b hb hs => by
  have := ht b hb
  have := h.blk_le b hs
  omega

/-! ### Where ways meet -/
theorem j0 {A : (TW → Prop) → Prop} {K : TW → Prop} (J : TW → Prop) (h1 : A J) (h2 : ∀  w, J  w → K  w) : Jn [] A K := ⟨J, h1, h2⟩
theorem j1 {c1 : CK} {A : (CV c1 → TW → Prop) → Prop} {K : CV c1 → TW → Prop} (J : CV c1 → TW → Prop) (h1 : A J) (h2 : ∀ x1 w, J x1 w → K x1 w) : Jn [c1] A K := ⟨J, h1, h2⟩
theorem j2 {c1 c2 : CK} {A : (CV c1 → CV c2 → TW → Prop) → Prop} {K : CV c1 → CV c2 → TW → Prop} (J : CV c1 → CV c2 → TW → Prop) (h1 : A J) (h2 : ∀ x1 x2 w, J x1 x2 w → K x1 x2 w) : Jn [c1, c2] A K := ⟨J, h1, h2⟩
theorem j3 {c1 c2 c3 : CK} {A : (CV c1 → CV c2 → CV c3 → TW → Prop) → Prop} {K : CV c1 → CV c2 → CV c3 → TW → Prop} (J : CV c1 → CV c2 → CV c3 → TW → Prop) (h1 : A J) (h2 : ∀ x1 x2 x3 w, J x1 x2 x3 w → K x1 x2 x3 w) : Jn [c1, c2, c3] A K := ⟨J, h1, h2⟩
theorem j4 {c1 c2 c3 c4 : CK} {A : (CV c1 → CV c2 → CV c3 → CV c4 → TW → Prop) → Prop} {K : CV c1 → CV c2 → CV c3 → CV c4 → TW → Prop} (J : CV c1 → CV c2 → CV c3 → CV c4 → TW → Prop) (h1 : A J) (h2 : ∀ x1 x2 x3 x4 w, J x1 x2 x3 x4 w → K x1 x2 x3 x4 w) : Jn [c1, c2, c3, c4] A K := ⟨J, h1, h2⟩
theorem j5 {c1 c2 c3 c4 c5 : CK} {A : (CV c1 → CV c2 → CV c3 → CV c4 → CV c5 → TW → Prop) → Prop} {K : CV c1 → CV c2 → CV c3 → CV c4 → CV c5 → TW → Prop} (J : CV c1 → CV c2 → CV c3 → CV c4 → CV c5 → TW → Prop) (h1 : A J) (h2 : ∀ x1 x2 x3 x4 x5 w, J x1 x2 x3 x4 x5 w → K x1 x2 x3 x4 x5 w) : Jn [c1, c2, c3, c4, c5] A K := ⟨J, h1, h2⟩

/-! ### Calls -/
theorem c0 {P : Program} {f : FuncId} {args : List Value} {w : TW} {Φ K : TW → Prop} (h : Ct P f args w none_ [] Φ) (hK : ∀ w', Ext none_ w w' → Φ w' → K w') : cl P f args w [] K := cl0 h hK
theorem c1 {P : Program} {f : FuncId} {args : List Value} {w : TW} {c : CK} {Φ K : CV c → TW → Prop} (h : Ct P f args w none_ [.one c] Φ) (hK : ∀ x w', Ext none_ w w' → Φ x w' → K x w') : cl P f args w [.one c] K := cl0 h hK
theorem c2 {P : Program} {f : FuncId} {args : List Value} {w : TW} {c d : CK} {Φ K : CV c → CV d → TW → Prop} (h : Ct P f args w none_ [.one c, .one d] Φ) (hK : ∀ x y w', Ext none_ w w' → Φ x y w' → K x y w') : cl P f args w [.one c, .one d] K := cl0 h hK
theorem c3 {P : Program} {f : FuncId} {args : List Value} {w : TW} {c d e : CK} {Φ K : CV c → CV d → CV e → TW → Prop} (h : Ct P f args w none_ [.one c, .one d, .one e] Φ) (hK : ∀ x y z w', Ext none_ w w' → Φ x y z w' → K x y z w') : cl P f args w [.one c, .one d, .one e] K := cl0 h hK
theorem Ext.here0 {X : Nat → Prop} {w w' : TW} (h : Ext X w.here w') : w.w.heap.size ≤ w'.w.heap.size := h.size
end Go.Proofs.Ythhohfgpaihngaa.Zg
