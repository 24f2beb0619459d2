/- A part of the proofs of this seat's laws: words, lemmas or contracts of its functions. -/
import Derived.Test.YthhohfgpaihngaaZgG
set_option linter.unusedVariables false
set_option linter.unusedSimpArgs false
set_option linter.unnecessarySimpa false
namespace Go.Proofs.Ythhohfgpaihngaa.Zg
open Go.RowKit

section
variable {P : Program} {D : Dc}

def sub64Entry : Array Value → Sem Value := fun args => do
  let (x, y, b) ← Extern.MathBitsCarry.three "Sub64" args
  pure (Extern.MathBitsCarry.pair ((x + Extern.MathBitsCarry.m64 - y - b) % Extern.MathBitsCarry.m64) (if x < y + b then 1 else 0))

/-- The functions without a body that are known, and those with one. -/
structure XtOk (P : Program) (ext : List (Nat × Nat)) : Prop where
  body : ∀ f, nat? ext f = some 0 → (P.funcs[f]?).any (fun fn => fn.body.isSome && !(fn.name == "runtime.NumGoroutine")) = true
  add : ∀ f, nat? ext f = some 1 → ∃ fn, P.funcs[f]? = some fn ∧ (fn.name == "runtime.NumGoroutine") = false ∧ fn.body.isNone = true ∧ Extern.findNext fn = none ∧ Extern.find fn = some add64Entry
  sub : ∀ f, nat? ext f = some 2 → ∃ fn, P.funcs[f]? = some fn ∧ (fn.name == "runtime.NumGoroutine") = false ∧ fn.body.isNone = true ∧ Extern.findNext fn = none ∧ Extern.find fn = some sub64Entry

theorem callFunc_body {f : FuncId} (h : (P.funcs[f]?).any (fun fn => fn.body.isSome && !(fn.name == "runtime.NumGoroutine")) = true) (args : Array Value) (w : World) :
    (callFunc f args).run P w = .ok (.enter f args) w := by
  cases hf : P.funcs[f]? with
  | none => rw [hf] at h; simp at h
  | some fn =>
    rw [hf] at h
    simp at h
    obtain ⟨h1, h2⟩ := h
    obtain ⟨c, hc⟩ := Option.isSome_iff_exists.1 h1
    simp [callFunc, hf, h2, hc]

def SRo (β : Nat → Option Nat) (d : Option Tmp) : Option SV → Value → Prop
  | none, _ => d = none
  | some x, v => SVR β x v

/-- What an operation that writes, makes memory or calls is owed: the slot's value, the environment and the world behind it. -/
def After (D : Dc) (β : Nat → Option Nat) (e : Env) (a : Act) (w : TW) (d : Option Tmp) (K : Option SV → Env → TW → Prop) (a' : Act) (v' : World) : Prop :=
  ∃ s v β' e' w', w'.w = v' ∧ a' = a.put d v ∧ K s e' w' ∧ Agree D β' e' a w' ∧ SRo β' d s v ∧
    (∀ h off b v, β h = some b → off < (nat? D.vb h).getD 0 → memN ((e'.take (e'.length - e.length)).map (·.1)) (h + off) = false → w.w.cell? ⟨b, off, none⟩ = some v → β' h = some b ∧ w'.w.cell? ⟨b, off, none⟩ = some v) ∧
    (∀ k, (∀ i, d = some i → nat? D.va i ≠ some k) → β' k = β k)

/-- A step that touches no local block. -/
theorem After.far {β : Nat → Option Nat} {e : Env} {a : Act} {w w' : TW} (hA : Agree D β e a w) {d : Option Tmp} {K : Option SV → Env → TW → Prop} {s : Option SV} {v : Value}
    (hK : K s e w') (hw : ∀ k b, β k = some b → w'.w.heap[b]? = w.w.heap[b]?) (hx : w.w.heap.size ≤ w'.w.heap.size) (hV : ∀ b, w.V b → w'.V b) (hB : w'.B = w.B) (hs : SRo β d s v) : After D β e a w d K (a.put d v) w'.w :=
  ⟨s, v, β, e, w', rfl, rfl, hK, hA.world hw hx hV hB, hs, fun h _ b _ hb _ _ hc => ⟨hb, (World.cell?_of_block (a := ⟨b, _, none⟩) (hw h b hb)).trans hc⟩, fun _ _ => rfl⟩

/-- Likewise, out of what a step tells of the world. -/
theorem After.ext {β : Nat → Option Nat} {e : Env} {a : Act} {w w' : TW} (hA : Agree D β e a w) {d : Option Tmp} {K : Option SV → Env → TW → Prop} {s : Option SV} {v : Value}
    (hK : K s e w') (hx : Ext none_ w w') (hw : ∀ k b, β k = some b → w'.w.heap[b]? = w.w.heap[b]?) (hs : SRo β d s v) : After D β e a w d K (a.put d v) w'.w :=
  After.far hA hK hw hx.size hx.sub hx.floor hs

theorem setCell_shape (w : World) (a : Addr) (v : Value) (b : Nat) : (w.setCell a v).shape? b = w.shape? b := by
  by_cases h : a.block = b
  · subst h
    unfold World.shape? World.setCell
    simp only [Array.getElem?_modify, if_true]
    cases hh : w.heap[a.block]? with
    | none => rfl
    | some o => cases o <;> simp; split <;> simp
  · unfold World.shape? World.setCell
    simp only [Array.getElem?_modify, if_neg h]

theorem stcs_sound {ad : Addr} : ∀ {vs : List Value} {i : Nat} {w : TW} {K : TW → Prop}, stcs ad i vs w K →
    ∃ w' : TW, (storeCells ad vs i).run P w.w = .ok () w'.w ∧ K w' ∧ w'.V = w.V ∧ w'.B = w.B ∧ w'.w.heap.size = w.w.heap.size ∧ ∀ b : Nat, w.V b → w'.w.heap[b]? = w.w.heap[b]?
  | [], i, w, K, h => ⟨w, by simp [storeCells], h, rfl, rfl, rfl, fun _ _ => rfl⟩
  | v :: vs, i, w, K, h => by
    unfold stcs at h
    split at h
    · rename_i h1
      obtain ⟨⟨old, ho⟩, hf, hoff, hK⟩ := h
      obtain ⟨w', hr, hK', hV, hB, hs, hk⟩ := stcs_sound hK
      refine ⟨w', by simp only [storeCells, Sem.run_bind, run_store _ _ _ _ _ h1, ho, hf]; exact hr, hK', hV, hB, hs.trans (by simp [TW.set, World.setCell]), fun b hb => ?_⟩
      have hne : b ≠ (ad.add i).block := fun e => by subst e; exact hoff hb
      rw [hk b hb]
      exact Below.heap_setCell w.w (ad.add i) v b hne
    · exact h.elim

theorem ones_spec : ∀ {vs : List Value}, ones vs = true → ∀ v ∈ vs, v.oneCell' = true
  | [], _ => by simp
  | v :: vs, h => by
    unfold ones at h
    split at h
    · rename_i h1
      intro u hu
      rcases List.mem_cons.1 hu with rfl | hu
      · exact h1
      · exact ones_spec h u hu
    · cases h

def TW.row (T : TW) (g : Nat) (cs : Array Value) : TW := { T with w := T.w.setRow g cs, lt := fun b h => by simpa [World.setRow] using T.lt b h }

theorem setRow_ext {w : TW} {g : Nat} {cur : Array Value} {e : TypeId} (hg : w.w.heap[g]? = some (.cells cur e (0, 0))) (cs : Array Value) (hs : cs.size = cur.size) : Ext (fun k => k = g) w (w.row g cs) := by
  refine ⟨rfl, rfl, rfl, by simp [TW.row, World.setRow], rfl, fun _ h => h, fun _ h => .inl h, fun k _ hk _ => setRow_other w.w g k _ hk, fun k _ => ?_⟩
  by_cases hkg : k = g
  · subst hkg
    simp [TW.row, World.shape?, setRow_heap w.w k cur cs e _ hg, hg, hs]
  · simp [TW.row, World.shape?, setRow_other w.w g k cs hkg]

def TW.drewAlloc (T : TW) (o : Obj) : TW := { T with w := T.w.drew.alloc o, lt := fun b h => by have := T.lt b h; simp; omega }

theorem ext_drew_alloc (w : TW) (o : Obj) (X : Nat → Prop) : Ext X w (w.drewAlloc o) :=
  ⟨rfl, rfl, rfl, by simp [TW.drewAlloc], rfl, fun _ h => h, fun _ h => .inl h, fun k hk _ _ => Below.heap_alloc w.w.drew _ k hk, fun k hk => shape_alloc w.w.drew o k hk⟩

/-- append(s, x...), s one's own. -/
theorem run_apd {w : TW} {B : Nat} {t ty e : TypeId} {i : TypeInfo} {z : Value} (ht : P.underlying t = some (.slice e)) (hi : P.info? e = some i) (hz : i.zero = some z) (hzs : z.cells.size = i.size) (hsz : 0 < i.size)
    {s x : Sl} {ls lx : List Value} (hown : Own w B e i.size s ls) (hx : Rdv w i.size x lx) (hB : B ≤ w.w.heap.size) (h1 : ∀ u ∈ lx, u.oneCell' = true) (h63 : s.n + x.n ≤ maxLen) (hbytes : (s.n + x.n) * i.bytes ≤ 140737488355328) :
    ∃ s' w', (Builtin.append_ #[t, t] ty #[s.v, x.v]).run P w.w = .ok s'.v w'.w ∧ Own w' B e i.size s' (ls ++ lx) ∧ s'.n = s.n + x.n ∧ Ext (fun b => s.blk = some b) w w' ∧ (∀ b, s'.blk = some b → s.blk = some b ∨ w.w.heap.size ≤ b) ∧ (∀ k, k < w.w.heap.size → s.blk ≠ some k → w'.w.heap[k]? = w.w.heap[k]?) := by
  obtain ⟨p, n, c⟩ := s
  obtain ⟨q, m, d⟩ := x
  obtain ⟨hl, hmd, hdm, hrd⟩ := hx
  obtain ⟨hown, hnV⟩ := hown
  simp only at hl hmd hdm hrd h63 hbytes ⊢
  have hsmall : n + m ≤ 9223372036854775807 := by simp only [maxLen] at h63; omega
  by_cases hm : m = 0
  · -- nothing to append
    subst hm
    obtain rfl : lx = [] := List.eq_nil_of_length_eq_zero (by simpa using hl)
    refine ⟨⟨p, n, c⟩, w, ?_, ⟨by simpa using hown, hnV⟩, rfl, Ext.refl _ _, fun b hb => .inl hb, fun _ _ _ => rfl⟩
    rcases hown.2 with ⟨hv, hn⟩ | ⟨g, cap, cur, hv, _, _, hnc, _⟩
    · simp only [Sl.v, Value.slice.injEq] at hv
      obtain ⟨rfl, rfl, rfl⟩ := hv
      cases q <;> simp [Builtin.append_, run_underlying ht, sizeOf, typeInfo, hi, Builtin.lenOf, Builtin.firstCells, loadCells, loadCellsFrom]
    · simp only [Sl.v, Value.slice.injEq] at hv
      obtain ⟨rfl, -, rfl⟩ := hv
      cases q <;> simp [Builtin.append_, run_underlying ht, sizeOf, typeInfo, hi, Builtin.lenOf, Builtin.firstCells, loadCells, loadCellsFrom, hnc, storeCells]
  · have hne : lx ≠ [] := fun e => by
      rw [e] at hl
      have := Nat.mul_pos (Nat.pos_of_ne_zero hm) hsz
      simp only [List.length_nil] at hl
      omega
    obtain ⟨b, o, rfl, _, hcell⟩ := hrd hne
    have hnews : ∀ j u, lx[j]? = some u → w.w.cell? ((⟨b, o, none⟩ : Addr).add j) = some u := fun j u hj => by rw [Addr.add_mk]; exact hcell j u hj
    have hlen : (ls ++ lx).length = (n + m) * i.size := by rw [List.length_append, hown.1, hl, Nat.add_mul]
    have grown : ∀ (old : Nat), old < n + m →
        Own (w.drewAlloc (.cells (ls.toArray ++ lx.toArray ++ Builtin.zeroCells z.cells (grownCap w.w (n + m) old e - (n + m))) e)) B e i.size ⟨some ⟨w.w.heap.size, 0, none⟩, n + m, grownCap w.w (n + m) old e⟩ (ls ++ lx) := by
      intro old ho
      have hge := grownCap_ge w.w (n + m) old e
      have hcm : grownCap w.w (n + m) old e ≤ maxLen := grownCap_le_maxLen w.w (n + m) old e h63
      refine ⟨⟨hlen, .inr ⟨w.w.heap.size, _, _, rfl, hB, heap_alloc_new w.w.drew _, hge, hcm, ?_, ?_⟩⟩, fun b hb => by simp [Sl.blk] at hb; subst hb; exact fun hv => Nat.lt_irrefl _ (w.lt _ hv)⟩
      · simp only [Array.size_append, List.size_toArray, size_zeroCells, hzs, hown.1, hl, ← Nat.add_mul]
        congr 1
        omega
      · simp only [Array.toList_append, List.append_assoc]
        rw [← List.append_assoc, ← hlen]
        exact List.take_left
    rcases hown.2 with ⟨hv, hn⟩ | ⟨g, cap, cur, hv, hbg, hg, hnc, hcm, hcs, htake⟩
    · simp only [Sl.v, Value.slice.injEq] at hv
      obtain ⟨rfl, rfl, rfl⟩ := hv
      obtain rfl : ls = [] := List.eq_nil_of_length_eq_zero (by simpa using hown.1)
      have hr := run_append_nil (P := P) (ty := ty) w.w t e i z ht hi hz ⟨b, o, none⟩ m d lx hl hnews (by omega) (by omega) (by have hb := hbytes; simp only [Nat.zero_add] at hb; omega)
      have hgr := grown 0 (by omega)
      simp only [Nat.zero_add, List.nil_append, Array.empty_append] at hgr ⊢
      exact ⟨⟨some ⟨w.w.heap.size, 0, none⟩, _, _⟩, w.drewAlloc _, hr, hgr, rfl, ext_drew_alloc _ _ _, fun b hb => .inr (by simp [Sl.blk] at hb; omega), fun k hk _ => Below.heap_alloc w.w.drew _ k hk⟩
    · simp only [Sl.v, Value.slice.injEq] at hv
      obtain ⟨rfl, -, rfl⟩ := hv
      by_cases hroom : n + m ≤ c
      · have hfit : n * i.size + lx.length ≤ cur.size := by rw [hl, hcs, ← Nat.add_mul]; exact Nat.mul_le_mul_right _ hroom
        have hr := run_append_room (P := P) (ty := ty) w.w t e i ht hi g n c cur hg ⟨b, o, none⟩ m d lx hl hnews h1 hroom hfit
        have hsize : (cur.toList.take (n * i.size) ++ lx ++ cur.toList.drop (n * i.size + lx.length)).toArray.size = cur.size := by
          simp only [List.size_toArray, List.length_append, List.length_take, List.length_drop, Array.length_toList]; omega
        refine ⟨⟨some ⟨g, 0, none⟩, n + m, c⟩, w.row g _, hr, ⟨⟨hlen, .inr ⟨g, c, _, rfl, hbg, setRow_heap w.w g cur _ e _ hg, hroom, hcm, ?_, ?_⟩⟩, hnV⟩, rfl, (setRow_ext hg _ hsize).mono (fun k _ hk => by simp [Sl.blk, hk]), fun b hb => .inl (by simpa [Sl.blk] using hb), fun k _ hk => setRow_other w.w g k _ (fun e => hk (by simp [Sl.blk, e]))⟩
        · rw [hsize, hcs]
        · rw [htake, ← hlen]
          exact List.take_left
      · have holds : ∀ j u, ls[j]? = some u → w.w.cell? ((⟨g, 0, none⟩ : Addr).add j) = some u := World.ownsRow.cells hown (g := g) rfl
        have hr := run_append_grow (P := P) (ty := ty) w.w t e i z ht hi hz ⟨g, 0, none⟩ n c ls hown.1 holds ⟨b, o, none⟩ m d lx hl hnews (by omega) (by omega) (growslice_fits (by omega) hbytes)
        exact ⟨⟨some ⟨w.w.heap.size, 0, none⟩, _, _⟩, w.drewAlloc _, hr, grown c (by omega), rfl, ext_drew_alloc _ _ _, fun b hb => .inr (by simp [Sl.blk] at hb; omega), fun k hk _ => Below.heap_alloc w.w.drew _ k hk⟩

theorem made_flat (z : Array Value) : ∀ n : Nat, (madeCells z (n * z.size)).toList = (List.replicate n z.toList).flatten
  | 0 => by simp [madeCells]
  | n + 1 => by
    have ih := made_flat z n
    simp only [madeCells, Array.toList_map, Array.toList_range] at ih ⊢
    rw [show (n + 1) * z.size = z.size + n * z.size by rw [Nat.add_mul]; omega, List.range_add, List.map_append, List.map_map, List.replicate_succ, List.flatten_cons, ← ih]
    congr 1
    · apply List.ext_getElem?
      intro j
      by_cases hj : j < z.size
      · simp [hj, Nat.mod_eq_of_lt hj]
      · simp [hj]
    · apply List.map_congr_left
      intro j _
      simp

def TW.alloc (T : TW) (o : Obj) : TW := { T with w := T.w.alloc o, lt := fun b h => by have := T.lt b h; simp; omega }
theorem New.mk' (w : TW) (cs : List Value) (e : TypeId) : New w w.w.heap.size cs e (w.alloc (.cells cs.toArray e)) := ⟨rfl, rfl, rfl, rfl⟩

theorem run_mks {w : TW} {t el : TypeId} {i : TypeInfo} {z : List Value} (ht : P.underlying t = some (.slice el)) (hi : P.info? el = some i) (hz : zeroL P el = some z) (hzl : z.length = i.size) (k k' : IntKind) {l c : Int}
    (h0 : 0 ≤ l) (h1 : l ≤ c) (h2 : c * i.bytes ≤ 140737488355328) (h3 : c ≤ 9223372036854775807) :
    ∃ b w', New w b (List.replicate c.toNat z).flatten el w' ∧ (Instr.makeSlice t (.int k l) (.int k' c)).run P w.w = .ok (.slice (some ⟨b, 0, none⟩) l.toNat c.toNat) w'.w := by
  unfold zeroL at hz
  rw [hi] at hz
  simp only at hz
  split at hz
  · rename_i zv hzv
    injection hz with hz
    subst hz
    refine ⟨_, _, New.mk' w _ _, ?_⟩
    rw [run_make (P := P) w.w t el i zv ht hi hzv k k' l c h0 h1 (by rw [Int.mul_comm]; omega) h3]
    have e : i.size = zv.cells.size := by rw [← hzl]; simp
    rw [← made_flat, e]
    rfl
  · cases hz

theorem fillL_length {pl : Nat → Option (Nat × Nat)} : ∀ {ps : List (Nat × Value)} {cs r : List Value}, fillL pl cs ps = some r → r.length = cs.length
  | [], cs, r, h => by simp [fillL] at h; rw [h]
  | (i, v) :: ps, cs, r, h => by
    unfold fillL at h
    split at h
    · cases h
    · split at h
      · rw [fillL_length h, setAt_length]
      · cases h

theorem run_bsl {w : TW} {t el : TypeId} {len sz : Nat} {z cs : List Value} {ps : List (Nat × Value)} (ht : P.underlying t = some (.slice el)) (hs : sizeT P el = some sz) (hz : zeroL P el = some z) (hzl : z.length = sz)
    (hf : fillL (fun i => some (i * sz, sz)) (List.replicate len z).flatten ps = some cs) (hb : len * sz ≤ 16777216) :
    ∃ b w', New w b cs el w' ∧ (Instr.buildSlice t len ps.toArray).run P w.w = .ok (.slice (some ⟨b, 0, none⟩) len len) w'.w := by
  refine ⟨_, _, New.mk' w _ _, ?_⟩
  unfold zeroL at hz
  split at hz
  · rename_i i hi
    split at hz
    · rename_i zv hzv
      injection hz with hz
      subst hz
      have e : sz = zv.cells.size := by rw [← hzl]; simp
      obtain ⟨ra, hr1, hr2⟩ := fillL_sound (pl' := fun i => some (i * sz, sz)) (fun i x hx => hx) (ca := madeCells zv.cells (len * sz)) (by rw [e, made_flat]) hf
      have hb' : ¬ 16777216 < len * sz := by omega
      have hcs : cs.toArray = ra := by rw [← hr2]
      by_cases hn : len * sz = 0
      · have hra : Instr.fill (fun i => some (i * sz, sz)) #[] ps = some ra := by
          rw [hn] at hr1
          simpa [madeCells, Array.range_zero'] using hr1
        simp [Instr.buildSlice, run_underlying ht, sizeT_run hs, hn, hra, newRow, hcs, Array.range_zero', TW.alloc]
      · simp [Instr.buildSlice, run_underlying ht, sizeT_run hs, hn, hb', zeroValue, typeInfo, hi, hzv, newRow, hcs, TW.alloc]
        simp only [madeCells] at hr1
        rw [hr1]
        simp
    · cases hz
  · cases hz
end
end Go.Proofs.Ythhohfgpaihngaa.Zg
