/- A part of the proofs of this seat's laws: words, lemmas or contracts of its functions. -/
import Derived.Test.YthhohfgpaihngaaZgC
set_option linter.unusedVariables false
set_option linter.unusedSimpArgs false
set_option linter.unnecessarySimpa false
namespace Go.Proofs.Ythhohfgpaihngaa.Zg
open Go.RowKit

section
variable {P : Program} {D : Dc}

def Yld (P : Program) (a : Act) (o : Oper) (v : Value) : Prop := ∀ w, (execOp a.eval o).run P w = .ok (.value v) w

theorem intop_sound {op : BinOp} {k k' : IntKind} {x y : Int} {K : Value → Prop} (h : intop op k k' x y K) (xt : TypeId) (p q : Operand) :
    ∃ v, K v ∧ ∀ w, (do eqGuard op xt p q (.int k x) (.int k' y); binOp op xt (.int k x) (.int k' y) : Sem Value).run P w = .ok v w := by
  cases op <;> simp only [intop] at h
  case shl => exact ⟨_, h.2, fun w => by simp [eqGuard, binOp, Op.shift, Int.not_lt.2 h.1]⟩
  case shr => exact ⟨_, h.2, fun w => by simp [eqGuard, binOp, Op.shift, Int.not_lt.2 h.1]⟩
  all_goals
    split at h
    case isFalse => exact h.elim
    rename_i hk
    subst hk
  case quo => exact ⟨_, h.2, fun w => by simp [eqGuard, binOp, Op.intDiv, h.1]⟩
  case rem => exact ⟨_, h.2, fun w => by simp [eqGuard, binOp, Op.intDiv, h.1]⟩
  all_goals exact ⟨_, h, fun w => by simp [eqGuard, binOp, Op.intArith, Op.intBits, Op.intCmp, bits2]⟩

theorem equalIn_bool (d : Nat) {xt : TypeId} (ht : P.underlying xt = some .bool) (a b : Bool) (w : World) : (Op.equalIn (d + 1) xt (.bool a) (.bool b)).run P w = .ok (a == b) w := by
  simp [Op.equalIn, run_underlying ht]
theorem equalIn_ptr (d : Nat) {xt e : TypeId} (ht : P.underlying xt = some (.pointer e)) (a : Option Addr) (w : World) : (Op.equalIn (d + 1) xt (.pointer a) (.pointer none)).run P w = .ok a.isNone w := by
  cases a <;> simp [Op.equalIn, run_underlying ht]
theorem equalIn_slice (d : Nat) {xt e : TypeId} (ht : P.underlying xt = some (.slice e)) (a : Option Addr) (n c n' c' : Nat) (w : World) : (Op.equalIn (d + 1) xt (.slice a n c) (.slice none n' c')).run P w = .ok a.isNone w := by
  cases a <;> simp [Op.equalIn, run_underlying ht]
theorem run_eql_of {xt : TypeId} {x y : Value} {r : Bool} (h : ∀ d w, (Op.equalIn (d + 1) xt x y).run P w = .ok r w)
    (hb : ∀ p q, eqGuard .eql xt p q x y = pure () ∧ eqGuard .neq xt p q x y = pure ())
    (he : binOp .eql xt x y = (do pure (.bool (← Op.equal xt x y)))) (hn : binOp .neq xt x y = (do pure (.bool (!(← Op.equal xt x y))))) (p q : Operand) (w : World) :
    (do eqGuard .eql xt p q x y; binOp .eql xt x y : Sem Value).run P w = .ok (.bool r) w ∧ (do eqGuard .neq xt p q x y; binOp .neq xt x y : Sem Value).run P w = .ok (.bool (!r)) w := by
  have h9 : (Op.equal xt x y).run P w = .ok r w := h 9999 w
  rw [(hb p q).1, (hb p q).2, he, hn]
  constructor <;> simp [h9]

theorem bop_sound {op : BinOp} {xt : TypeId} {x y : Value} {K : Value → Prop} (h : bop P op xt x y K) (p q : Operand) :
    ∃ v, K v ∧ ∀ w, (do eqGuard op xt p q x y; binOp op xt x y : Sem Value).run P w = .ok v w := by
  unfold bop at h
  split at h
  · exact intop_sound h xt p q
  · split at h
    · rename_i a b _ ht
      have hr := run_eql_of (P := P) (r := (a == b)) (fun d w => equalIn_bool d ht a b w) (fun _ _ => ⟨rfl, rfl⟩) rfl rfl p q
      cases op <;> simp only at h
      case eql => exact ⟨_, h, fun w => (hr w).1⟩
      case neq => exact ⟨_, h, fun w => (hr w).2⟩
    · exact h.elim
  · split at h
    · rename_i a _ _ ht
      have hr := run_eql_of (P := P) (r := a.isNone) (fun d w => equalIn_ptr d ht a w) (fun _ _ => ⟨rfl, rfl⟩) rfl rfl p q
      cases op <;> simp only at h
      case eql => exact ⟨_, h, fun w => (hr w).1⟩
      case neq => exact ⟨_, h, fun w => (hr w).2⟩
    · exact h.elim
  · split at h
    · rename_i a n c n' c' _ _ ht
      have hr := run_eql_of (P := P) (r := a.isNone) (fun d w => equalIn_slice d ht a n c n' c' w) (fun _ _ => ⟨rfl, rfl⟩) rfl rfl p q
      cases op <;> simp only at h
      case eql => exact ⟨_, h, fun w => (hr w).1⟩
      case neq => exact ⟨_, h, fun w => (hr w).2⟩
    · exact h.elim
  · exact h.elim

theorem uop_sound {op : UnOp} {x : Value} {K : Value → Prop} (h : uop op x K) : ∃ v, K v ∧ ∀ w, (Op.unary op x).run P w = .ok v w := by
  unfold uop at h
  split at h
  · exact ⟨_, h, fun w => by simp [Op.unary, Op.intArith]⟩
  · exact ⟨_, h, fun w => by simp [Op.unary, Op.intBits, bits2]⟩
  · exact ⟨_, h, fun w => by simp [Op.unary]⟩
  · exact h.elim

theorem sizeT_run {t : TypeId} {n : Nat} (h : sizeT P t = some n) (w : World) : (sizeOf t).run P w = .ok n w := by
  unfold sizeT at h
  split at h
  · rename_i i hi
    injection h with h; subst h
    simp [sizeOf, typeInfo, hi]
  · cases h

theorem aggT_run (t : TypeId) (d : TypeDesc) (h : P.underlying t = some d) (w : World) : (isAgg t).run P w = .ok (aggT P t) w := by
  unfold isAgg aggT
  rw [h]
  cases d <;> simp [run_underlying h]

theorem prt_run {t : TypeId} {cs : Array Value} {off : Nat} {v : Value} (h : prt P t cs.toList off = some v) (w : World) : (part t cs off).run P w = .ok v w := by
  unfold prt at h
  split at h
  · cases h
  rename_i d hd
  cases hg : aggT P t with
  | true =>
    rw [hg] at h
    simp only at h
    split at h
    · rename_i n hn
      injection h with h; subst h
      have e : (List.take n (List.drop off cs.toList)).toArray = cs.extract off (off + n) := by
        apply Array.ext'
        simp [Array.toList_extract, List.extract_eq_take_drop]
      simp [part, aggT_run t d hd, hg, sizeT_run hn, e]
    · cases h
  | false =>
    rw [hg] at h
    simp only at h
    have h' : cs[off]? = some v := by simpa using h
    simp [part, aggT_run t d hd, hg, h']

theorem mm_sound {big : Bool} : ∀ {vs : List Value} {x v : Value}, mm big x vs = some v → ∀ w, (vs.foldlM (if big then Builtin.max2 else Builtin.min2) x).run P w = .ok v w
  | [], x, v, h, w => by
    cases x <;> simp [mm] at h
    subst h; rfl
  | y :: vs, x, v, h, w => by
    cases x <;> cases y <;> simp [mm] at h
    have := mm_sound h w
    cases big <;> simp [Builtin.max2, Builtin.min2] at this ⊢ <;> exact this

theorem evParts_sound {β : Nat → Option Nat} {e : Env} {a : Act} {w : TW} (h : Agree D β e a w) : ∀ {xs : List (Nat × Operand)} {vs : List (Nat × Value)}, evParts D e xs = some vs → xs.map (fun x => (x.1, a.eval x.2)) = vs
  | [], vs, hs => by simp [evParts] at hs; simp [hs]
  | (i, x) :: xs, vs, hs => by
    unfold evParts at hs
    split at hs
    · rename_i v us hv hus
      injection hs with hs; subst hs
      simp [evv_sound h hv, evParts_sound h hus]
    · cases hs

theorem setAt_foldl : ∀ (vs : List Value) (off : Nat) (cs : Array Value) (k : Nat), ((vs.zipIdx k).foldl (fun cs (x : Value × Nat) => cs.setIfInBounds (off + x.2) x.1) cs).toList = setAt cs.toList (off + k) vs
  | [], off, cs, k => by simp [setAt]
  | v :: vs, off, cs, k => by
    simp only [List.zipIdx_cons, List.foldl_cons, setAt]
    rw [setAt_foldl vs off _ (k + 1)]
    simp [Nat.add_assoc]

theorem setAt_length : ∀ (vs : List Value) (off : Nat) (cs : List Value), (setAt cs off vs).length = cs.length
  | [], _, _ => rfl
  | v :: vs, off, cs => by rw [setAt, setAt_length]; simp

theorem fillL_sound {pl pl' : Nat → Option (Nat × Nat)} (hp : ∀ i x, pl i = some x → pl' i = some x) : ∀ {ps : List (Nat × Value)} {cs : List Value} {r : List Value} {ca : Array Value}, ca.toList = cs → fillL pl cs ps = some r → ∃ ra, Instr.fill pl' ca ps = some ra ∧ ra.toList = r
  | [], cs, r, ca, hc, h => by simp [fillL] at h; exact ⟨ca, rfl, hc.trans h⟩
  | (i, v) :: ps, cs, r, ca, hc, h => by
    unfold fillL at h
    split at h
    · cases h
    · rename_i off size hpl
      split at h
      · rename_i hb
        simp only [Bool.and_eq_true] at hb
        have h1 : v.cells.size = size := by simpa using Nat.eq_of_beq_eq_true hb.1
        have h2 : off + v.cells.size ≤ ca.size := by
          have := Nat.le_of_ble_eq_true hb.2
          simpa [← hc] using this
        obtain ⟨ra, hr1, hr2⟩ := fillL_sound hp (ca := v.cells.zipIdx.foldl (fun cs (x : Value × Nat) => cs.setIfInBounds (off + x.2) x.1) ca) (by
          rw [← Array.foldl_toList, Array.toList_zipIdx, setAt_foldl, hc]; rfl) h
        refine ⟨ra, ?_, hr2⟩
        unfold Instr.fill
        rw [hp _ _ hpl]
        simp only [h1, ne_eq, not_true_eq_false, decide_false, Bool.false_or]
        rw [if_neg (by simp; omega)]
        exact hr1
      · cases h

theorem zeroL_run {t : TypeId} {z : List Value} (h : zeroL P t = some z) : ∃ v, (∀ w, (zeroValue t).run P w = .ok v w) ∧ v.cells.toList = z := by
  unfold zeroL at h
  split at h
  · rename_i i hi
    split at h
    · rename_i v hv
      injection h with h
      exact ⟨v, fun w => by simp [zeroValue, typeInfo, hi, hv], h⟩
    · cases h
  · cases h

theorem placesOf_run : ∀ {fs : List Field} {l : List (Nat × Nat)}, placesOf P fs = some l → ∀ w, (List.mapM (fun f => Prod.mk f.offset <$> sizeOf f.type : Field → Sem (Nat × Nat)) fs).run P w = .ok l w
  | [], l, h, w => by simp [placesOf] at h; subst h; rfl
  | f :: fs, l, h, w => by
    unfold placesOf at h
    split at h
    · rename_i n l' hn hl
      injection h with h; subst h
      simp [List.mapM_cons, sizeT_run hn, placesOf_run hl w]
    · cases h

theorem bld_sound {t : TypeId} {ps : List (Nat × Value)} {cs : List Value} (h : bld P t ps = some cs) (w : World) : (Instr.build t ps.toArray).run P w = .ok (.agg cs.toArray) w := by
  unfold bld at h
  split at h
  · cases h
  · rename_i z hz
    obtain ⟨zv, hzr, hzc⟩ := zeroL_run hz
    split at h
    · rename_i fs hfs
      split at h
      · rename_i pl hpl
        obtain ⟨ra, hr1, hr2⟩ := fillL_sound (pl' := (pl.toArray[·]?)) (fun i x hx => by simpa using hx) hzc h
        have hm : (fs.mapM (fun f => do pure (f.offset, ← sizeOf f.type) : Field → Sem (Nat × Nat))).run P w = .ok pl.toArray w := by
          have := placesOf_run hpl w
          rw [Array.mapM_eq_mapM_toList]
          simp [this]
        simp only [Instr.build, Sem.run_bind, hzr, Result.andThen_ok, run_underlying hfs, hm]
        rw [hr1, ← hr2]
        simp
      · cases h
    · rename_i n e he
      split at h
      · rename_i sz hsz
        obtain ⟨ra, hr1, hr2⟩ := fillL_sound (pl' := fun i => some (i * sz, sz)) (fun i x hx => hx) hzc h
        simp only [Instr.build, Sem.run_bind, hzr, Result.andThen_ok, run_underlying he, sizeT_run hsz]
        rw [hr1, ← hr2]
        simp
      · cases h
    · cases h

theorem cut_run {t el : TypeId} {s : Sl} {sz : Nat} (ht : P.underlying t = some (.slice el)) (hs : sizeT P el = some sz) {lo hi : Int} {l h : Option Value} (hl : (l = none ∧ lo = 0) ∨ ∃ k, l = some (.int k lo)) (hh : (h = none ∧ hi = s.n) ∨ ∃ k, h = some (.int k hi))
    (h1 : 0 ≤ lo) (h2 : lo ≤ hi) (h3 : hi ≤ s.c) (w : World) : (Instr.sliceAt t s.v l h none).run P w = .ok (s.cut lo.toNat hi.toNat sz).v w := by
  have e : (s.cut lo.toNat hi.toNat sz).v = .slice (if s.c = lo.toNat then s.p else s.p.map (·.add (lo.toNat * sz))) (hi.toNat - lo.toNat) (s.c - lo.toNat) := rfl
  rw [e]
  rcases hl with ⟨rfl, rfl⟩ | ⟨k, rfl⟩ <;> rcases hh with ⟨rfl, rfl⟩ | ⟨k', rfl⟩
  · simp [Instr.sliceAt, Instr.slice, run_underlying ht, Instr.sliceBounds, sizeT_run hs]
  · simp [Instr.sliceAt, Instr.slice, run_underlying ht, Instr.sliceBounds, Instr.sliceBound, asIntOf, sizeT_run hs, h2, h3]
  · have h4 : lo ≤ (s.n : Int) := h2
    simp [Instr.sliceAt, Instr.slice, run_underlying ht, Instr.sliceBounds, Instr.sliceBound, asIntOf, sizeT_run hs, h1, h4]
  · obtain ⟨x, rfl⟩ := Int.eq_ofNat_of_zero_le h1
    obtain ⟨y, rfl⟩ := Int.eq_ofNat_of_zero_le (Int.le_trans h1 h2)
    have h4 : x ≤ y := by omega
    have h5 : y ≤ s.c := by omega
    simp [Instr.sliceAt, Instr.slice, run_underlying ht, Instr.sliceBounds, Instr.sliceBound, asIntOf, sizeT_run hs, h4, h5]
end
end Go.Proofs.Ythhohfgpaihngaa.Zg
