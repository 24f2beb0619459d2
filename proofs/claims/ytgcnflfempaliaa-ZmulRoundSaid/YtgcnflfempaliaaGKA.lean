/- A part of the proofs of this seat's laws: words, lemmas or contracts of its functions. -/
import Derived.Test.YtgcnflfempaliaaGQ
import Derived.Test.YtgcnflfempaliaaGP
import Derived.Test.YtgcnflfempaliaaGS
set_option linter.unusedVariables false
set_option linter.unusedSimpArgs false
set_option linter.unnecessarySimpa false
section
namespace Go.Proofs.Ytgcnflfempaliaa.Zg
open Go.RowKit

theorem third_fin1 {w c X q hi : Nat} (hc : c ≤ 2) (hqb : q < 18446744073709551616) (hq3 : 18446744073709551616 * hi + X = q * 3) (hX : X + c = w + 18446744073709551616) (h : w < c) : 3 * q + c = w + (hi * 18446744073709551616 + 1 * 18446744073709551616) ∧ hi + 1 ≤ 2 := by
  refine ⟨by omega, ?_⟩
  have : hi < 2 := by
    refine Nat.lt_of_not_le fun h2 => ?_
    have := Nat.mul_le_mul_left 18446744073709551616 h2
    omega
  omega
theorem third_fin2 {w c X q hi : Nat} (hc : c ≤ 2) (hqb : q < 18446744073709551616) (hq3 : 18446744073709551616 * hi + X = q * 3) (hX : X + c = w) : 3 * q + c = w + hi * 18446744073709551616 ∧ hi ≤ 2 := by
  refine ⟨by omega, ?_⟩
  have : hi < 3 := by
    refine Nat.lt_of_not_le fun h2 => ?_
    have := Nat.mul_le_mul_left 18446744073709551616 h2
    omega
  omega
theorem third_step {w c X q hi d : Nat} (hw : w < 18446744073709551616) (hc : c ≤ 2) (hX : X = (w + 18446744073709551616 - c - 0) % 18446744073709551616) (hd : d = if w < c + 0 then 1 else 0) (hq : q = X * 12297829382473034411 % 18446744073709551616) (hhi : hi = q * 3 / 18446744073709551616) : 3 * q + c = w + (hi + d) * 18446744073709551616 ∧ hi + d ≤ 2 := by
  have hXb : X < 18446744073709551616 := by rw [hX]; exact Nat.mod_lt _ (by decide)
  have hqb : q < 18446744073709551616 := by rw [hq]; exact Nat.mod_lt _ (by decide)
  have hr : q * 3 % 18446744073709551616 = X := by
    have e1 : X * 12297829382473034411 * 3 = X + 18446744073709551616 * (2 * X) := by
      rw [Nat.mul_assoc, show 12297829382473034411 * 3 = 1 + 18446744073709551616 * 2 from rfl, Nat.mul_add, Nat.mul_one, Nat.mul_comm X (18446744073709551616 * 2), Nat.mul_assoc]
    rw [hq, Nat.mod_mul_mod, e1, Nat.add_mul_mod_self_left]
    exact Nat.mod_eq_of_lt hXb
  have hq3 := Nat.div_add_mod (q * 3) 18446744073709551616
  rw [hr, ← hhi] at hq3
  rw [Nat.sub_zero] at hX
  subst hd
  clear hq hhi hr
  by_cases h : w < c
  · have hX' : X + c = w + 18446744073709551616 := by
      have : X = w + 18446744073709551616 - c := by rw [hX]; exact Nat.mod_eq_of_lt (by omega)
      clear hX hq3; omega
    clear hX
    rw [if_pos (by omega), Nat.add_mul]
    exact third_fin1 hc hqb hq3 hX' h
  · have hX' : X + c = w := by
      have : X = w - c := by
        rw [hX, show w + 18446744073709551616 - c = w - c + 18446744073709551616 by omega, Nat.add_mod_right]
        exact Nat.mod_eq_of_lt (by omega)
      clear hX hq3; omega
    clear hX
    rw [if_neg (by omega), Nat.add_zero]
    exact third_fin2 hc hqb hq3 hX'

theorem third_mod {N Q c n : Nat} (h : 3 * Q = N + W64 ^ n * c) (hc : c ≤ 2) : (c = 0 ↔ N % 3 = 0) := by
  have hp : W64 ^ n % 3 = 1 := by rw [Nat.pow_mod, show W64 % 3 = 1 from rfl, Nat.one_pow]
  obtain ⟨m, hm⟩ : ∃ m, W64 ^ n = 3 * m + 1 := ⟨W64 ^ n / 3, by omega⟩
  rw [hm] at h
  have : c = 0 ∨ c = 1 ∨ c = 2 := by omega
  rcases this with rfl | rfl | rfl <;> omega

end Go.Proofs.Ytgcnflfempaliaa.Zg
end

section
namespace Go.Proofs.Ytgcnflfempaliaa.Zg
open Go.RowKit

/-- p leads through blocks, a pointer in each, to block t. -/
def Chain (w : TW) : Option Addr → List Nat → Nat → Prop
  | p, [], t => p = some ⟨t, 0, none⟩
  | p, b :: bs, t => p = some ⟨b, 0, none⟩ ∧ ¬ w.V b ∧ ∃ q, w.w.cell? ⟨b, 0, none⟩ = some (.pointer q) ∧ Chain w q bs t
theorem Chain.here {w : TW} {t : Nat} : ∀ {bs : List Nat} {p : Option Addr}, Chain w p bs t → Chain w.here p bs t
  | [], _, h => h
  | _ :: _, _, ⟨h1, h2, q, h3, h4⟩ => ⟨h1, h2, q, h3, Chain.here h4⟩
theorem Chain.at {w : TW} {t k : Nat} : ∀ {bs : List Nat} {p : Option Addr}, Chain w p bs t → Chain (w.at k) p bs t
  | [], _, h => h
  | _ :: _, _, ⟨h1, h2, q, h3, h4⟩ => ⟨h1, h2, q, h3, Chain.at h4⟩
theorem Chain.extX {w w' : TW} {X : Nat → Prop} {t : Nat} (hx : Ext X w w') : ∀ {bs : List Nat} {p : Option Addr}, Chain w p bs t → (∀ b ∈ bs, ¬ X b) → Chain w' p bs t
  | [], _, h, _ => h
  | b :: bs, _, ⟨h1, h2, q, h3, h4⟩, hX => by
    have hlt : b < w.w.heap.size := World.block_lt_of_cell? w.w _ h3
    exact ⟨h1, fun hV => (hx.new b hV).elim h2 fun h' => by omega, q, (World.cell?_of_block (hx.block b hlt (hX b (List.mem_cons_self ..)) (.inr h2))).trans h3, Chain.extX hx h4 fun c hc => hX c (List.mem_cons_of_mem _ hc)⟩
theorem Chain.ext {w w' : TW} {t : Nat} {bs : List Nat} {p : Option Addr} (h : Chain w p bs t) (hx : Ext none_ w w') : Chain w' p bs t := h.extX hx fun _ _ h => h
theorem Chain.en {w : TW} {p : Option Addr} {e t : Nat} (h : Chain w p [e] t) : En w p e t := by
  obtain ⟨h1, h2, q, h3, h4⟩ := h
  cases h4
  exact ⟨h1, h3, h2⟩
theorem En.chain {w : TW} {p : Option Addr} {e t : Nat} (h : En w p e t) : Chain w p [e] t := ⟨h.is, h.V, _, h.cell, rfl⟩
theorem Chain.lt {w : TW} {t : Nat} : ∀ {bs : List Nat} {p : Option Addr}, Chain w p bs t → ∀ b ∈ bs, b < w.w.heap.size
  | [], _, _, b, hb => by cases hb
  | c :: bs, _, ⟨_, _, q, h3, h4⟩, b, hb => by
    rcases List.mem_cons.1 hb with rfl | hb
    · exact World.block_lt_of_cell? w.w _ h3
    · exact Chain.lt h4 b hb

theorem Tn.putj {w : TW} {t : Nat} {xs : List Int} (h : w.w.heap[t]? = some (.cells (xs.map (Value.int .i64)).toArray T.table_Tune (0, 0))) (hV : ¬ w.V t) {j : Nat} (hj : j < xs.length) (x : Int) {K : TW → Prop} (hK : ∀ w', w'.w.heap[t]? = some (.cells ((xs.set j x).map (Value.int .i64)).toArray T.table_Tune (0, 0)) → ¬ w'.V t → Ext (fun k => k = t) w w' → K w') : stc w ⟨t, j, none⟩ (.int .i64 x) K := by
  refine ⟨⟨.int .i64 xs[j], ?_⟩, by simp [World.frozen?, h], hV, hK (w.set ⟨t, j, none⟩ (.int .i64 x)) ?_ hV ⟨rfl, rfl, rfl, by simp [TW.set, World.setCell], rfl, fun _ h => h, fun _ h => .inl h, fun k _ hX _ => Below.heap_setCell w.w _ _ k hX, fun k _ => setCell_shape _ _ _ _⟩⟩
  · rw [cell_of_row w.w t j _ T.table_Tune (0, 0) h]
    simp [hj]
  · simp [TW.set, World.setCell, Array.getElem?_modify, h, List.map_set]
theorem Tn.drew {w : TW} {t : Nat} {m a b : Int} {tab : List Int} (h : Tn w t m a b tab) : Tn w.drew t m a b tab := ⟨h.at_, h.V⟩

theorem kara_New {t : HL I11} {w : TW} : Ct Pg F.kara_New [.agg (encs I11 t).toArray] w none_ [.one .ptr] fun (p : Option Addr) w' => ∃ k e b tab, Chain w' p [k, e] b ∧ w.w.heap.size ≤ b ∧ (∀ c ∈ [k, e], w.w.heap.size ≤ c ∧ c ≠ b) ∧ TabOk tab ∧ Tn w' b 0 0 0 tab := by
  refine Ct.kara_New ?_
  unfold Sh.kara_New
  intro w1 e1
  refine c1 (school_New (t := t)) ?_
  rintro p w2 e2 ⟨e, b, tab, hen, hbe, hbt, hne, htab, htn⟩
  intro c w3 hn
  have hlt := htn.lt
  have hc : c = w2.w.heap.size := hn.at_
  have hle : w.w.heap.size ≤ w1.w.heap.size := e1.size
  have hle2 := e2.size
  refine rt1 (c := .ptr) (some ⟨c, 0, none⟩) ((e1.trans e2).trans (hn.ext _)) ⟨c, e, b, tab, ?_, by omega, ?_, htab, (htn.ext (hn.ext _)).at⟩
  · refine ⟨rfl, fun hV => ?_, p, ?_, (hen.chain.ext (hn.ext _)).at⟩
    · have hV : w3.V c := hV
      rw [hn.V] at hV
      have := w2.lt _ hV
      omega
    · show w3.w.cell? _ = _
      rw [cell_of_row w3.w c 0 _ T.kara_Engine (0, 0) hn.heap]
      rfl
  · simp only [List.mem_cons, List.not_mem_nil, or_false]
    rintro x (rfl | rfl)
    · exact ⟨by omega, by omega⟩
    · exact ⟨by omega, hne⟩

/-- Words of a row, just as many. -/
def pc (l : List Nat) (f n : Nat) : List Nat := (l.drop f).take n ++ List.replicate (n - ((l.drop f).take n).length) 0
theorem pc_len (l : List Nat) (f n : Nat) : (pc l f n).length = n := by simp [pc]; omega
theorem pc_vl (b : Nat) (l : List Nat) (f n : Nat) : vl b (pc l f n) = vl b ((l.drop f).take n) := by rw [pc, vl_append, vl_zeros]; simp

end Go.Proofs.Ytgcnflfempaliaa.Zg
end
