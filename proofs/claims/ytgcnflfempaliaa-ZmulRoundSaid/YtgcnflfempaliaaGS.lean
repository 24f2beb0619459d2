/- A part of the proofs of this seat's laws: words, lemmas or contracts of its functions. -/
import Derived.Test.YtgcnflfempaliaaGQ
import Derived.Test.YtgcnflfempaliaaGP
import Derived.Deep.Fields
set_option linter.unusedVariables false
set_option linter.unusedSimpArgs false
set_option linter.unnecessarySimpa false
section
namespace Go.Proofs.Ytgcnflfempaliaa.Zg
open Go.RowKit

/-- Block t holds a tune: what the meter counted, and the table. -/
structure Tn (w : TW) (t : Nat) (m a b : Int) (tab : List Int) : Prop where
  at_ : w.w.heap[t]? = some (.cells ((m :: a :: b :: tab).map (Value.int .i64)).toArray T.table_Tune (0, 0))
  V : ¬ w.V t

theorem Tn.lt {w : TW} {t : Nat} {m a b : Int} {tab : List Int} (h : Tn w t m a b tab) : t < w.w.heap.size := (Array.getElem?_eq_some_iff.1 h.at_).1
theorem Tn.here {w : TW} {t : Nat} {m a b : Int} {tab : List Int} (h : Tn w t m a b tab) : Tn w.here t m a b tab := ⟨h.at_, h.V⟩
theorem Tn.at {w : TW} {t k : Nat} {m a b : Int} {tab : List Int} (h : Tn w t m a b tab) : Tn (w.at k) t m a b tab := ⟨h.at_, h.V⟩
theorem Tn.extX {w w' : TW} {X : Nat → Prop} {t : Nat} {m a b : Int} {tab : List Int} (h : Tn w t m a b tab) (hx : Ext X w w') (hX : ¬ X t) : Tn w' t m a b tab :=
  ⟨(hx.block t h.lt hX (.inr h.V)).trans h.at_, fun hV => (hx.new t hV).elim h.V fun h' => by have := h.lt; omega⟩
theorem Tn.ext {w w' : TW} {t : Nat} {m a b : Int} {tab : List Int} (h : Tn w t m a b tab) (hx : Ext none_ w w') : Tn w' t m a b tab := h.extX hx fun h => h
theorem Tn.cell {w : TW} {t : Nat} {m a b : Int} {tab : List Int} (h : Tn w t m a b tab) (i : Nat) : w.w.cell? ⟨t, i, none⟩ = ((m :: a :: b :: tab)[i]?).map (Value.int .i64) := by
  rw [cell_of_row w.w t i _ T.table_Tune (0, 0) h.at_, ← List.getElem?_map]
  exact List.getElem?_toArray ..

theorem Tn.put0 {w : TW} {t : Nat} {m a b : Int} {tab : List Int} (h : Tn w t m a b tab) (x : Int) {K : TW → Prop} (hK : ∀ w', Tn w' t x a b tab → Ext (fun k => k = t) w w' → K w') : stc w ⟨t, 0, none⟩ (.int .i64 x) K := by
  refine ⟨⟨_, (h.cell 0).trans rfl⟩, by simp [World.frozen?, h.at_], h.V, hK _ ⟨?_, h.V⟩ ⟨rfl, rfl, rfl, by simp [TW.set, World.setCell], rfl, fun _ h => h, fun _ h => .inl h, fun k _ hX _ => Below.heap_setCell w.w _ _ k hX, fun k _ => setCell_shape _ _ _ _⟩⟩
  simp [TW.set, World.setCell, Array.getElem?_modify, h.at_, Array.setIfInBounds]

/-- As Rd.extX; an empty row lies nowhere. -/
theorem Rd.extN {w w' : TW} {X : Nat → Prop} {s : Sl} {l : List Nat} (h : Rd w s l) (hx : Ext X w w') (hX : l ≠ [] → ∀ b, s.blk = some b → ¬ X b) : Rd w' s l := by
  rcases List.eq_nil_or_concat l with h0 | ⟨_, _, h0⟩
  · subst h0
    exact ⟨⟨h.rv.1, h.rv.2.1, h.rv.2.2.1, fun h => absurd rfl h⟩, Sm.nil _⟩
  · exact h.extX hx (hX (by rw [h0]; simp))

theorem table_within {w : TW} {n l m : Int} (hlm : l ≤ m) : Ct Pg F.table_within [.int .i64 n, .int .i64 l, .int .i64 m] w none_ [.one (.int .i64)] fun (r : Int) _ => l ≤ r ∧ r ≤ m := by
  refine Ct.table_within ?_
  unfold Sh.table_within
  refine bnd_i (bnd_i (rt1 (c := .int .i64) _ (Ext.refl _ _) ?_))
  constructor <;> (split <;> split <;> omega)
end Go.Proofs.Ytgcnflfempaliaa.Zg
end

section
namespace Go.Proofs.Ytgcnflfempaliaa.Zg
open Go.RowKit

/-- p points to an engine in block e, whose tune lies in block t. -/
structure En (w : TW) (p : Option Addr) (e t : Nat) : Prop where
  is : p = some ⟨e, 0, none⟩
  cell : w.w.cell? ⟨e, 0, none⟩ = some (.pointer (some ⟨t, 0, none⟩))
  V : ¬ w.V e
theorem En.lt {w : TW} {p : Option Addr} {e t : Nat} (h : En w p e t) : e < w.w.heap.size := World.block_lt_of_cell? w.w _ h.cell
theorem En.here {w : TW} {p : Option Addr} {e t : Nat} (h : En w p e t) : En w.here p e t := ⟨h.is, h.cell, h.V⟩
theorem En.extX {w w' : TW} {X : Nat → Prop} {p : Option Addr} {e t : Nat} (h : En w p e t) (hx : Ext X w w') (hX : ¬ X e) : En w' p e t :=
  ⟨h.is, (World.cell?_of_block (hx.block e h.lt hX (.inr h.V))).trans h.cell, fun hV => (hx.new e hV).elim h.V fun h' => by have := h.lt; omega⟩

end Go.Proofs.Ytgcnflfempaliaa.Zg
end

section
namespace Go.Proofs.Ytgcnflfempaliaa.Zg
open Go.RowKit

abbrev I11 : List CK := [.int .i64, .int .i64, .int .i64, .int .i64, .int .i64, .int .i64, .int .i64, .int .i64, .int .i64, .int .i64, .int .i64]
/-- The numbers of a table that was clamped. -/
def TabOk (tab : List Int) : Prop := ∃ r0 r1 r2 r3 r4 r5 r6 r7 r8 r9 r10 : Int, tab = [r0, r1, r2, r3, r4, r5, r6, r7, r8, r9, r10] ∧ (4 ≤ r0 ∧ r0 ≤ 64) ∧ (12 ≤ r1 ∧ r1 ≤ 8192) ∧ (64 ≤ r2 ∧ r2 ≤ 16384) ∧ (4 ≤ r3 ∧ r3 ≤ 1024) ∧ (4 ≤ r4 ∧ r4 ≤ 4096) ∧ (2 ≤ r5 ∧ r5 ≤ 1024) ∧ (2 ≤ r6 ∧ r6 ≤ 1024) ∧ (4 ≤ r7 ∧ r7 ≤ 256) ∧ (4 ≤ r8 ∧ r8 ≤ 1024) ∧ (2 ≤ r9 ∧ r9 ≤ 1024) ∧ (2 ≤ r10 ∧ r10 ≤ 256)

theorem table_Clamp {t : HL I11} {w : TW} : Ct Pg F.table_Clamp [.agg (encs I11 t).toArray] w none_ [.agg I11] fun (r0 r1 r2 r3 r4 r5 r6 r7 r8 r9 r10 : Int) _ => TabOk [r0, r1, r2, r3, r4, r5, r6, r7, r8, r9, r10] := by
  refine Ct.table_Clamp ?_
  unfold Sh.table_Clamp
  intro w1 e1 w2 e2
  have e := (e1.trans e2).drew
  refine c1 (table_within (by decide)) fun r0 w3 e3 h0 => c1 (table_within (by decide)) fun r1 w4 e4 h1 => c1 (table_within (by decide)) fun r2 w5 e5 h2 => c1 (table_within (by decide)) fun r3 w6 e6 h3 => c1 (table_within (by decide)) fun r4 w7 e7 h4 => c1 (table_within (by decide)) fun r5 w8 e8 h5 => c1 (table_within (by decide)) fun r6 w9 e9 h6 => c1 (table_within (by decide)) fun r7 w10 e10 h7 => c1 (table_within (by decide)) fun r8 w11 e11 h8 => c1 (table_within (by decide)) fun r9 w12 e12 h9 => c1 (table_within (by decide)) fun r10 w13 e13 h10 => ?_
  intro w14 e14
  exact ⟨(r0, r1, r2, r3, r4, r5, r6, r7, r8, r9, r10, ()), rfl, (((((((((((e.trans e3).trans e4).trans e5).trans e6).trans e7).trans e8).trans e9).trans e10).trans e11).trans e12).trans e13).trans e14, r0, r1, r2, r3, r4, r5, r6, r7, r8, r9, r10, rfl, h0, h1, h2, h3, h4, h5, h6, h7, h8, h9, h10⟩

theorem table_New {t : HL I11} {w : TW} : Ct Pg F.table_New [.agg (encs I11 t).toArray] w none_ [.one .ptr] fun (p : Option Addr) w' => ∃ b tab, p = some ⟨b, 0, none⟩ ∧ w.w.heap.size ≤ b ∧ TabOk tab ∧ Tn w' b 0 0 0 tab := by
  refine Ct.table_New ?_
  unfold Sh.table_New
  intro w1 e1
  refine cl0 (table_Clamp (t := t)) ?_
  intro r0 r1 r2 r3 r4 r5 r6 r7 r8 r9 r10 w2 e2 h
  intro b w3 hn
  have e12 := e1.trans e2
  have hb : b = w2.w.heap.size := hn.at_
  refine rt1 (c := .ptr) (some ⟨b, 0, none⟩) (e12.trans (hn.ext _)) ⟨b, _, rfl, ?_, h, ⟨hn.heap, fun hV => ?_⟩⟩
  · rw [hb]; exact e12.size
  · have hV : w3.V b := hV
    rw [hn.V] at hV
    have := w2.lt _ hV
    omega

theorem school_New {t : HL I11} {w : TW} : Ct Pg F.school_New [.agg (encs I11 t).toArray] w none_ [.one .ptr] fun (p : Option Addr) w' => ∃ e b tab, En w' p e b ∧ w.w.heap.size ≤ e ∧ w.w.heap.size ≤ b ∧ e ≠ b ∧ TabOk tab ∧ Tn w' b 0 0 0 tab := by
  refine Ct.school_New ?_
  unfold Sh.school_New
  intro w1 e1
  refine c1 (table_New (t := t)) ?_
  rintro p w2 e2 ⟨b, tab, rfl, hb, htab, htn⟩
  intro c w3 hn
  have hlt := htn.lt
  have hc : c = w2.w.heap.size := hn.at_
  have hle := e1.size
  have hle2 := e2.size
  refine rt1 (c := .ptr) (some ⟨c, 0, none⟩) ((e1.trans e2).trans (hn.ext _)) ⟨c, b, tab, ⟨rfl, ?_, fun hV => ?_⟩, ?_, Nat.le_trans hle hb, by omega, htab, (htn.ext (hn.ext _)).at⟩
  · show w3.w.cell? _ = _
    rw [cell_of_row w3.w c 0 _ T.school_Engine (0, 0) hn.heap]
    rfl
  · have hV : w3.V c := hV
    rw [hn.V] at hV
    have := w2.lt _ hV
    omega
  · rw [hc]; exact Nat.le_trans hle hle2
end Go.Proofs.Ytgcnflfempaliaa.Zg
end

section
namespace Go.Proofs.Ytgcnflfempaliaa.Zg
open Go.RowKit

theorem sz_powN (x n : Nat) : sz (x ^ n) ≤ n * sz x + 1 := by
  induction n with
  | zero => simpa using sz_word (x := 1) (by decide)
  | succ n ih => rw [Nat.pow_succ, Nat.succ_mul]; have := sz_mul (x ^ n) x; omega

end Go.Proofs.Ytgcnflfempaliaa.Zg
end

section
namespace Go.Proofs.Ytgcnflfempaliaa.Zg
open Go.RowKit

/-- The squares of a row's first words, each at its place. -/
def Qs (l : List Nat) (j : Nat) : Nat := vl (W64 * W64) ((l.map fun x => x * x).take j)
theorem Qs_zero (l : List Nat) : Qs l 0 = 0 := by simp [Qs, vl_nil]
theorem Qs_succ (l : List Nat) (j : Nat) : Qs l (j + 1) = Qs l j + W64 ^ (2 * j) * (l.getD j 0 * l.getD j 0) := by
  unfold Qs
  rw [vl_take_getD, Nat.pow_mul, Nat.pow_two]
  congr 2
  simp only [List.getD_eq_getElem?_getD, List.getElem?_map]
  cases l[j]? <;> rfl
theorem vl_drop_succ (b : Nat) {l : List Nat} {j : Nat} (h : j < l.length) : vl b (l.drop j) = l.getD j 0 + b * vl b (l.drop (j + 1)) := by
  rw [List.drop_eq_getElem_cons h, vl_cons]
  simp [h]
theorem sqr_row {S T P' W v tl A j Q y : Nat} (h : 2 * S + Q + W ^ (2 * j) * (y * y) = A) (hy : y = v + W * tl) (hP : P' = S + W ^ (2 * j + 1) * tl * v) (hT : T = Q + W ^ (2 * j) * (v * v)) : 2 * P' + T + W ^ (2 * (j + 1)) * (tl * tl) = A := by
  subst hy hP hT
  have e1 : W ^ (2 * j + 1) = W ^ (2 * j) * W := Nat.pow_succ ..
  have e2 : W ^ (2 * (j + 1)) = W ^ (2 * j) * W * W := by rw [show 2 * (j + 1) = 2 * j + 1 + 1 by omega, Nat.pow_succ, Nat.pow_succ]
  rw [← h, e1, e2]
  generalize W ^ (2 * j) = p
  grind
theorem dbl_dvd (z : Nat) : (2 : Nat) ^ 1 ∣ z * 2 ^ 1 % W64 := (Nat.dvd_mod_iff ⟨9223372036854775808, rfl⟩).2 (Nat.dvd_mul_left _ _)
theorem dbl_mod (z : Nat) : z * 2 ^ 1 % W64 = z % 9223372036854775808 * 2 := by rw [w64]; omega
theorem top_le {z : Nat} (hz : z < 18446744073709551616) : z / 2 ^ 63 ≤ 1 := by omega
theorem car_le {x g lo c : Nat} (hg : g ≤ 1) (hl : lo < W64) (hc : c ≤ 1) : (x * 2 ^ 1 % W64 + g + lo + c) / 18446744073709551616 ≤ 1 := by rw [dbl_mod]; rw [w64] at hl; omega

theorem sqr_step {x y s s2 c g c' h' lo hi d W M P P' p L Q a H : Nat} (hs : x % M * 2 + g + lo + c = s + W * d) (h2 : y % M * 2 + H + hi + d = s2 + W * c') (hW : W = M * 2) (hH : H = x / M) (hh : h' = y / M) (ha : lo + W * hi = a)
    (hP : P' + p * x + p * W * y = P + p * s + p * W * s2) (h0 : P + p * (c + g) = L + Q) : P' + p * W * W * (c' + h') = L + (p * x + p * W * y) + (Q + p * a) := by
  have e1 := Nat.div_add_mod x M
  have e2 := Nat.div_add_mod y M
  rw [← hH] at e1
  rw [← hh] at e2
  generalize x % M = xm at *
  generalize y % M = ym at *
  subst e1 e2 hW ha
  have e3 : p * (s + M * 2 * d) = p * (xm * 2 + g + lo + c) := by rw [hs]
  have e4 : p * (M * 2) * (s2 + M * 2 * c') = p * (M * 2) * (ym * 2 + H + hi + d) := by rw [h2]
  grind

end Go.Proofs.Ytgcnflfempaliaa.Zg
end

section
namespace Go.Proofs.Ytgcnflfempaliaa.Zg
open Go.RowKit

/-- An engine made since w0. -/
structure Es (w0 w : TW) (p : Option Addr) (e b : Nat) (m : Int) (tab : List Int) : Prop where
  en : En w p e b
  tn : Tn w b m 0 0 tab
  ne : e ≠ b
  old : w0.w.heap.size ≤ b
  ex : Ext none_ w0 w
theorem Es.ext {w0 w w' : TW} {p : Option Addr} {e b : Nat} {m : Int} {tab : List Int} (h : Es w0 w p e b m tab) (x : Ext none_ w w') : Es w0 w' p e b m tab := ⟨h.en.extX x fun h => h, h.tn.ext x, h.ne, h.old, h.ex.trans x⟩
theorem Es.lt {w0 w : TW} {p : Option Addr} {e b : Nat} {m : Int} {tab : List Int} (h : Es w0 w p e b m tab) : b < w.w.heap.size := h.tn.lt
/-- Two own rows of one number are the same. -/
theorem sameO {w : TW} {B C : Nat} {s t : Sl} {x y : Nat} (h : On w B s x) (k : On w C t y) (hxy : x = y) {K : Bool → TW → Prop} (hK : ∀ w', Ext none_ w w' → K true w') : cl Pg F.zigguratkeep_Same [s.v, t.v] w [.one .bool] K := by
  subst hxy
  refine c1 (keep_Same h.rd k.rd) ?_
  rintro r w' e rfl
  exact hK w' e
end Go.Proofs.Ytgcnflfempaliaa.Zg
end

section
namespace Go.Proofs.Ytgcnflfempaliaa.Zg
open Go.ChangeShapes Go.WideShapes Go.ChangeAt Go.RowKit

/-- All fields are int64s of one cell. -/
def i64Fields (P : Program) (fs : Array Field) : Bool := (List.range 11).all fun i => match fs[i]? with
  | some f => f.offset == i && P.cellsOf f.type == 1 && (match P.underlying f.type with | some (.int .i64) => true | _ => false)
  | none => false

theorem open_i11 {H : Type} {enc : TypeId × Value → H} {P : Program} {w : World} {base b0 : Nat} {spare : Nat → Bool} {held : Bool} {r : Reach} {t : TypeId} {fs : Array Field} {v : Value} {d : DataW H} {p : List MemPlace} (hs : P.underlying t = some (.struct fs)) (hf : i64Fields P fs = true) (hn : fs.size = 11) (hC : P.cellsOf t = 11)
    (hv : Value.okWide P w r b0 t v) (h : DataW.Trod enc P w base spare held t v d p) : ∃ tt : HL I11, v = .agg (encs I11 tt).toArray := by
  obtain ⟨cs, rfl, hsz⟩ := okWide_struct hs hv
  obtain ⟨fuel, hh⟩ := h
  obtain ⟨xs, n, _, _, hl, hlen, hx⟩ := DataW.trod_struct hs hh
  have key : ∀ i, i < 11 → ∃ z : Int, cs.toList[i]? = some (.int .i64 z) := fun i hi => by
    have h1 := List.all_eq_true.1 hf i (List.mem_range.2 hi)
    split at h1
    · rename_i f hfi
      simp only [Bool.and_eq_true, beq_iff_eq] at h1
      obtain ⟨⟨h2, h3⟩, h4⟩ := h1
      have h5 := hx i f hfi
      have h6 : i < xs.length := by omega
      rw [List.getElem?_eq_getElem h6] at h5
      split at h4
      · rename_i hu
        obtain ⟨z, hz, _⟩ := DataW.trod_int hu h5
        refine ⟨z, ?_⟩
        rw [h2, h3] at hz
        simp only [Value.cells] at hz
        have : (cs.toList.drop i)[0]? = some (.int .i64 z) := by
          have h7 := congrArg (fun l => l[0]?) hz
          simpa [List.getElem?_take] using h7
        simpa using this
      · cases h4
    · cases h1
  obtain ⟨z0, h0⟩ := key 0 (by decide)
  obtain ⟨z1, h1⟩ := key 1 (by decide)
  obtain ⟨z2, h2⟩ := key 2 (by decide)
  obtain ⟨z3, h3⟩ := key 3 (by decide)
  obtain ⟨z4, h4⟩ := key 4 (by decide)
  obtain ⟨z5, h5⟩ := key 5 (by decide)
  obtain ⟨z6, h6⟩ := key 6 (by decide)
  obtain ⟨z7, h7⟩ := key 7 (by decide)
  obtain ⟨z8, h8⟩ := key 8 (by decide)
  obtain ⟨z9, h9⟩ := key 9 (by decide)
  obtain ⟨z10, h10⟩ := key 10 (by decide)
  refine ⟨(z0, z1, z2, z3, z4, z5, z6, z7, z8, z9, z10, ()), ?_⟩
  congr 1
  refine Array.toList_inj.1 (List.ext_getElem? fun i => ?_)
  have hlen : cs.toList.length = 11 := by simpa using hsz.trans hC
  match i with
  | 0 => exact h0
  | 1 => exact h1
  | 2 => exact h2
  | 3 => exact h3
  | 4 => exact h4
  | 5 => exact h5
  | 6 => exact h6
  | 7 => exact h7
  | 8 => exact h8
  | 9 => exact h9
  | 10 => exact h10
  | i + 11 => rw [List.getElem?_eq_none (by omega)]; rfl
end Go.Proofs.Ytgcnflfempaliaa.Zg
end
