/- A part of the proofs of this seat's laws: words, lemmas or contracts of its functions. -/
import Derived.Test.YthhohfgpaihngaaZgW
set_option linter.unusedVariables false
set_option linter.unusedSimpArgs false
set_option linter.unnecessarySimpa false
namespace Go.Proofs.Ythhohfgpaihngaa.Zg
open Go.RowKit

/-! ### Operations on words -/
theorem fdiv_nat (x y : Nat) : ((x : Int).fdiv (y : Int)) = ((x / y : Nat) : Int) := by
  rw [Int.fdiv_eq_ediv_of_nonneg _ (by omega)]; rfl
theorem shrN {k : IntKind} {x n : Nat} {X N : Int} {K : Int → Prop} (hX : X = x) (hN : N = n) (hn : n ≤ k.bits) (h : K ((x / 2 ^ n : Nat) : Int)) : shrK k X N K := by
  subst hX hN
  refine ⟨by omega, ?_⟩
  rw [Int.toNat_natCast, Nat.min_eq_left hn, show ((2 : Int) ^ n) = ((2 ^ n : Nat) : Int) by simp, fdiv_nat]
  exact h
theorem shlN {x n : Nat} {X N : Int} {K : Int → Prop} (hX : X = x) (hN : N = n) (hn : n ≤ 64) (h : K ((x * 2 ^ n % W64 : Nat) : Int)) : shlK .u64 X N K := by
  subst hX hN
  refine ⟨by omega, ?_⟩
  rw [Int.toNat_natCast, Nat.min_eq_left (by simpa [IntKind.bits] using hn), show ((x : Int) * (2 : Int) ^ n) = ((x * 2 ^ n : Nat) : Int) by simp]
  have := wu_nat (x * 2 ^ n)
  rw [wu] at this
  rw [this]
  exact h
theorem divNu {x y : Nat} {X Y : Int} {K : Int → Prop} (hX : X = x) (hY : Y = y) (hx : x < W64) (h0 : y ≠ 0) (h : K ((x / y : Nat) : Int)) : divK .u64 X Y K := by
  subst hX hY
  refine ⟨by omega, ?_⟩
  rw [Int.tdiv_eq_ediv_of_nonneg (by omega), show ((x : Int) / (y : Int)) = ((x / y : Nat) : Int) by rfl]
  have := wu_id (Nat.lt_of_le_of_lt (Nat.div_le_self x y) hx)
  rw [wu] at this
  rw [this]
  exact h
theorem divNi {x y : Nat} {X Y : Int} {K : Int → Prop} (hX : X = x) (hY : Y = y) (hx : x ≤ 9223372036854775807) (h0 : y ≠ 0) (h : K ((x / y : Nat) : Int)) : divK .i64 X Y K := by
  subst hX hY
  refine ⟨by omega, ?_⟩
  rw [Int.tdiv_eq_ediv_of_nonneg (by omega), show ((x : Int) / (y : Int)) = ((x / y : Nat) : Int) by rfl]
  have h1 := Nat.div_le_self x y
  have := wi_id (x := ((x / y : Nat) : Int)) (by exact Int.le_trans (by decide) (Int.natCast_nonneg _)) (by have h2 := Int.ofNat_le.2 (Nat.le_trans h1 hx); exact h2)
  rw [wi] at this
  rw [this]
  exact h
theorem remN {x y : Nat} {X Y : Int} {K : Int → Prop} (hX : X = x) (hY : Y = y) (h0 : y ≠ 0) (h : K ((x % y : Nat) : Int)) : remK X Y K := by
  subst hX hY
  refine ⟨by omega, ?_⟩
  rw [Int.tmod_eq_emod_of_nonneg (by omega)]
  exact h
theorem bits2_u64 {op : BinOp} {x y z : Nat} (hz : z < W64) (h : bits2 op .u64 (x : Int) (y : Int) = IntKind.u64.wrap (z : Int)) : bits2 op .u64 (x : Int) (y : Int) = z := by
  rw [h]; exact wu_id hz
theorem bv_nat {x : Nat} (hx : x < W64) : (BitVec.ofInt 64 (x : Int)).toNat = x := by
  rw [BitVec.ofInt_natCast, BitVec.toNat_ofNat]
  exact Nat.mod_eq_of_lt hx
theorem bnd_and {x y : Nat} {X Y : Int} {K : Int → Prop} (hX : X = x) (hY : Y = y) (hx : x < W64) (hy : y < W64) (h : K ((x &&& y : Nat) : Int)) : bnd (bits2 .and .u64 X Y) K := by
  subst hX hY
  unfold bnd
  rw [bits2_u64 (Nat.lt_of_le_of_lt Nat.and_le_left hx) (z := x &&& y)]
  · exact h
  · have e : (BitVec.ofInt 64 (x : Int) &&& BitVec.ofInt 64 (y : Int)).toNat = x &&& y := by rw [BitVec.toNat_and, bv_nat hx, bv_nat hy]
    show IntKind.u64.wrap (((BitVec.ofInt 64 (x : Int) &&& BitVec.ofInt 64 (y : Int)).toNat : Nat) : Int) = _
    rw [e]
theorem bnd_or {x y : Nat} {X Y : Int} {K : Int → Prop} (hX : X = x) (hY : Y = y) (hx : x < W64) (hy : y < W64) (h : K ((x ||| y : Nat) : Int)) : bnd (bits2 .or .u64 X Y) K := by
  subst hX hY
  unfold bnd
  rw [bits2_u64 (Nat.or_lt_two_pow (n := 64) hx hy) (z := x ||| y)]
  · exact h
  · have e : (BitVec.ofInt 64 (x : Int) ||| BitVec.ofInt 64 (y : Int)).toNat = x ||| y := by rw [BitVec.toNat_or, bv_nat hx, bv_nat hy]
    show IntKind.u64.wrap (((BitVec.ofInt 64 (x : Int) ||| BitVec.ofInt 64 (y : Int)).toNat : Nat) : Int) = _
    rw [e]
/-- x & (2^k - 1) -/
theorem bnd_low {x k : Nat} {X Y : Int} {K : Int → Prop} (hX : X = x) (hY : Y = (2 ^ k - 1 : Nat)) (hx : x < W64) (hk : k ≤ 64) (h : K ((x % 2 ^ k : Nat) : Int)) : bnd (bits2 .and .u64 X Y) K := by
  have : 2 ^ k ≤ 2 ^ 64 := Nat.pow_le_pow_right (by decide) hk
  have h0 := Nat.two_pow_pos k
  refine bnd_and hX hY hx (by show _ < 2 ^ 64; omega) ?_
  rwa [Nat.and_two_pow_sub_one_eq_mod]
/-- x + y as x | y, y below a power of two that divides x -/
theorem bnd_plus {x y k : Nat} {X Y : Int} {K : Int → Prop} (hX : X = x) (hY : Y = y) (hx : x < W64) (hy : y < W64) (h1 : 2 ^ k ∣ x) (h2 : y < 2 ^ k) (h : K ((x + y : Nat) : Int)) : bnd (bits2 .or .u64 X Y) K := by
  refine bnd_or hX hY hx hy ?_
  obtain ⟨q, rfl⟩ := h1
  rwa [← Nat.two_pow_add_eq_or_of_lt h2]
theorem bnd_plus' {x y k : Nat} {X Y : Int} {K : Int → Prop} (hX : X = x) (hY : Y = y) (hx : x < W64) (hy : y < W64) (h1 : 2 ^ k ∣ y) (h2 : x < 2 ^ k) (h : K ((x + y : Nat) : Int)) : bnd (bits2 .or .u64 X Y) K := by
  refine bnd_or hX hY hx hy ?_
  obtain ⟨q, rfl⟩ := h1
  rwa [Nat.or_comm, ← Nat.two_pow_add_eq_or_of_lt h2, Nat.add_comm]

/-! ### More about rows -/
theorem Ow.cpy {w : TW} {B : Nat} {d s : Sl} {l m : List Nat} (h : Ow w B d l) (k : Rd w s m) (hle : m.length ≤ l.length) {K : Int → TW → Prop}
    (hK : ∀ w', Ow w' B d (m ++ l.drop m.length) → Ext (fun b => d.blk = some b) w w' → K (m.length : Nat) w') : cpy w T.uint64 d s K := by
  have hd := h.rd.len
  have hs := k.len
  have hmin : min s.n d.n = m.length := by omega
  rcases h.ow.form with ⟨rfl, hv⟩ | ⟨b, cur, hp, hB, hg, hnc, hcm, hcs, ht, hV⟩
  · have hl : l = [] := by simpa using hv
    subst hl
    have hm : m = [] := by simpa using hle
    subst hm
    exact .inl ⟨hmin, by simpa using hK w (by simpa using h) (Ext.refl _ _)⟩
  · refine .inr ⟨m.map U, b, 0, cur, k.rv, map_u_one m, hp, hV, hg, by omega, fun w' hw hx => ?_⟩
    rw [hmin]
    have hbk : d.blk = some b := by simp [Sl.blk, hp]
    refine hK w' ⟨⟨⟨by simp; omega, .inr ⟨b, d.c, _, by simp [hp], hB, hw, hnc, hcm, ?_, ?_⟩⟩, fun c hc hV' => ?_⟩, k.sm.append (h.sm.drop _)⟩ (hx.mono fun k _ e => by subst e; exact hbk)
    · simp [splice]; omega
    · rw [Nat.mul_one] at ht ⊢
      have hlen : cur.toList.length = d.c := by simpa using hcs
      have e : List.map U (m ++ l.drop m.length) = m.map U ++ (cur.toList.take d.n).drop m.length := by rw [ht]; simp
      rw [e]
      simp only [splice, List.take_zero, List.nil_append, Nat.zero_add]
      rw [hmin, List.take_of_length_le (by simp : (m.map U).length ≤ m.length), List.take_append]
      simp only [List.length_map]
      rw [List.take_of_length_le (by simp; omega), List.drop_take]
    · rw [hbk] at hc; cases hc
      rcases hx.new b hV' with h | h
      · exact hV h
      · have := (Array.getElem?_eq_some_iff.1 hg).1; omega

theorem nw_u64 {w : TW} {y : Int} {x : Nat} {K : Nat → TW → Prop} (hy : y = x) (hx : x < W64) (h : ∀ b w', Ow w' w.w.heap.size ⟨some ⟨b, 0, none⟩, 1, 1⟩ [x] → Ext none_ w w' → K b w') : nwb w [.int .u64 y] T.uint64 K := by
  subst hy
  intro b w' hn
  refine h b w' ⟨⟨⟨by simp, .inr ⟨b, 1, #[U x], rfl, by have := hn.at_; omega, by simpa using hn.heap, Nat.le_refl _, by decide, by simp, by simp⟩⟩, fun c hc hV => ?_⟩, Sm.cons hx (Sm.nil _)⟩ (hn.ext _)
  simp [Sl.blk] at hc
  rw [hn.V] at hV
  have := w.lt _ hV
  have := hn.at_
  omega
end Go.Proofs.Ythhohfgpaihngaa.Zg
