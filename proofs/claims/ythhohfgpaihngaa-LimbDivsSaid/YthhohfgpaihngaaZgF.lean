/- A part of the proofs of this seat's laws: words, lemmas or contracts of its functions. -/
import Derived.Test.YthhohfgpaihngaaZgE
import Derived.Laws.Externs
set_option linter.unusedVariables false
set_option linter.unusedSimpArgs false
set_option linter.unnecessarySimpa false
namespace Go.Proofs.Ythhohfgpaihngaa.Zg
open Go.RowKit

section
variable {P : Program} {D : Dc}

/-- The cells of local blocks that a load hangs on. -/
def VC (β : Nat → Option Nat) (w : World) (ks : List (Nat × Nat × Value)) : Prop := ∀ k ∈ ks, ∃ b, β k.1 = some b ∧ w.cell? ⟨b, k.2.1, none⟩ = some k.2.2

theorem vkeys_mem {β : Nat → Option Nat} {w : World} {h b : Nat} (hb : β h = some b) : ∀ {vs : List Value} {off : Nat}, VC β w (vkeys h off vs) ↔ ∀ j v, vs[j]? = some v → w.cell? ⟨b, off + j, none⟩ = some v
  | [], off => by simp [vkeys, VC]
  | v :: vs, off => by
    have ih := vkeys_mem (w := w) hb (vs := vs) (off := off + 1)
    simp only [VC] at ih ⊢
    simp only [vkeys, List.mem_cons, forall_eq_or_imp, ih]
    constructor
    · rintro ⟨⟨b', h1, h2⟩, h3⟩ j u hu
      rw [hb] at h1; injection h1 with h1; subst h1
      cases j with
      | zero => simp at hu; subst hu; exact h2
      | succ j => rw [show off + (j + 1) = off + 1 + j by omega]; exact h3 j u (by simpa using hu)
    · intro hh
      refine ⟨⟨b, hb, hh 0 v rfl⟩, fun j u hu => ?_⟩
      rw [show off + 1 + j = off + (j + 1) by omega]
      exact hh (j + 1) u (by simpa using hu)

theorem vkeys_off {h : Nat} : ∀ {vs : List Value} {off : Nat} {k : Nat × Nat × Value}, k ∈ vkeys h off vs → k.1 = h ∧ off ≤ k.2.1 ∧ k.2.1 < off + vs.length
  | [], off, k, hk => by simp [vkeys] at hk
  | v :: vs, off, k, hk => by
    simp only [vkeys, List.mem_cons] at hk
    rcases hk with rfl | hk
    · simp
    · obtain ⟨h1, h2, h3⟩ := vkeys_off hk
      simp only [List.length_cons]
      omega

theorem vtOf_one {t : TypeId} {c : CK} (h : vtOf P t = some (.one c)) (w : World) : (isAgg t).run P w = .ok false w := by
  unfold vtOf at h
  split at h
  · split at h <;> simp at h
  · split at h <;> simp at h
  · rename_i d h1 h2 hd
    rw [aggT_run t d hd]
    unfold aggT
    rw [hd]
    cases d <;> simp at h1 h2 <;> first | rfl | (exfalso; first | exact h1 _ hd | exact h2 _ _ hd)
  · cases h

theorem vtOf_agg {t : TypeId} {cs : List CK} (h : vtOf P t = some (.agg cs)) (w : World) : (isAgg t).run P w = .ok true w := by
  unfold vtOf at h
  split at h
  · rename_i hd
    rw [aggT_run t _ hd]; unfold aggT; rw [hd]
  · rename_i hd
    rw [aggT_run t _ hd]; unfold aggT; rw [hd]
  · split at h <;> simp at h
  · cases h

theorem ldcs_sound {w : TW} {a : Addr} : ∀ {cs : List CK} {i : Nat} {K : List Value → Prop}, ldcs w a i cs K → ∃ vs, vs.length = cs.length ∧ K vs ∧ ∀ j v, vs[j]? = some v → w.w.cell? (a.add (i + j)) = some v
  | [], i, K, h => ⟨[], rfl, h, by simp⟩
  | c :: cs, i, K, h => by
    obtain ⟨x, hx, h⟩ := h
    obtain ⟨vs, hl, hK, hc⟩ := ldcs_sound h
    refine ⟨CV.enc c x :: vs, by simp [hl], hK, fun j v hv => ?_⟩
    cases j with
    | zero => simp at hv; subst hv; exact hx
    | succ j =>
      have := hc j v (by simpa using hv)
      rw [show i + (j + 1) = i + 1 + j by omega]
      exact this

theorem pairs_mem {a : Addr} : ∀ {vs : List Value} {i : Nat} {w : World}, (∀ x ∈ pairs a i vs, w.cell? x.1 = some x.2) ↔ ∀ j v, vs[j]? = some v → w.cell? (a.add (i + j)) = some v
  | [], i, w => by simp [pairs]
  | v :: vs, i, w => by
    simp only [pairs, List.mem_cons, forall_eq_or_imp]
    rw [pairs_mem (vs := vs) (i := i + 1)]
    constructor
    · rintro ⟨h1, h2⟩ j u hu
      cases j with
      | zero => simp at hu; subst hu; exact h1
      | succ j => rw [show i + (j + 1) = i + 1 + j by omega]; exact h2 j u (by simpa using hu)
    · intro h
      refine ⟨h 0 v rfl, fun j u hu => ?_⟩
      rw [show i + 1 + j = i + (j + 1) by omega]
      exact h (j + 1) u (by simpa using hu)

theorem gets_spec {e : Env} : ∀ {n k : Nat} {vs : List Value}, e.gets k n = some vs → vs.length = n ∧ ∀ j v, vs[j]? = some v → e.get (k + j) = some (.v v)
  | 0, k, vs, h => by simp [Env.gets] at h; subst h; simp
  | n + 1, k, vs, h => by
    unfold Env.gets at h
    split at h
    · rename_i x hx
      split at h
      · rename_i xs hxs
        injection h with h; subst h
        obtain ⟨h1, h2⟩ := gets_spec hxs
        refine ⟨by simp [h1], fun j v hv => ?_⟩
        cases j with
        | zero => simp at hv; subst hv; exact hx
        | succ j => rw [show k + (j + 1) = k + 1 + j by omega]; exact h2 j v (by simpa using hv)
      · cases h
    · cases h

theorem inB_spec {h off n : Nat} (hi : inB D h off n = true) : ∃ m, nat? D.vb h = some m ∧ off + n ≤ m := by
  unfold inB at hi
  split at hi
  · rename_i m hm
    refine ⟨m, hm, ?_⟩
    split at hi
    · rename_i h0; have := Nat.eq_of_beq_eq_true h0; have := Nat.le_of_ble_eq_true hi; omega
    · exact Nat.le_of_ble_eq_true hi
  · cases hi

theorem Addr.add_mk (b o n : Nat) : (⟨b, o, none⟩ : Addr).add n = ⟨b, o + n, none⟩ := by
  unfold Addr.add; split <;> simp_all

/-- A load, in every world where the cells are as they are here. -/
theorem lop_sound {β : Nat → Option Nat} {e : Env} {a : Act} {w : TW} (hA : Agree D β e a w) {o : Oper} {K : SV → List (Addr × Value) → List (Nat × Nat × Value) → Prop} (h : lop P D o e w K) :
    ∃ s v cs ks, K s cs ks ∧ SVR β s v ∧ (∀ x ∈ cs, w.w.cell? x.1 = some x.2) ∧ VC β w.w ks ∧ (∀ k ∈ ks, k.2.1 < (nat? D.vb k.1).getD 0) ∧
      ∀ w', (∀ x ∈ cs, w'.cell? x.1 = some x.2) → VC β w' ks → (execOp a.eval o).run P w' = .ok (.value v) w' := by
  obtain ⟨dst, op, type, pos, after, guard⟩ := o
  cases op
  case load t x =>
    simp only [lop] at h
    split at h
    · rename_i ad c hx hc
      obtain ⟨y, hy, hK⟩ := h
      have hv := ev_sound hA hx
      simp only [SVR] at hv
      refine ⟨_, _, _, _, hK, rfl, by simpa using hy, by simp [VC], by simp, fun w' hcs _ => ?_⟩
      have := hcs _ (List.mem_singleton_self _)
      simp [execOp, Instr.loadAt, hv, Instr.sureAddr, loadVar, vtOf_one hc, this]
    · rename_i ad cs hx hc
      have hv := ev_sound hA hx
      simp only [SVR] at hv
      split at h
      · rename_i n hn
        split at h
        · rename_i hb
          have hb := Nat.eq_of_beq_eq_true hb
          obtain ⟨vs, hl, hK, hcell⟩ := ldcs_sound h
          refine ⟨_, _, _, _, hK, rfl, pairs_mem.2 hcell, by simp [VC], by simp, fun w' hcs _ => ?_⟩
          have hcell' := pairs_mem.1 hcs
          have := run_loadCells_list (P := P) w' ad vs (fun j v hj => by simpa using hcell' j v hj)
          rw [hl, ← hb] at this
          simp [execOp, Instr.loadAt, hv, Instr.sureAddr, loadVar, vtOf_agg hc, sizeT_run hn, this]
        · exact h.elim
      · exact h.elim
    · rename_i k off c hx hc
      split at h
      · rename_i v hg hi
        obtain ⟨b, hb, hv⟩ := ev_sound hA hx
        obtain ⟨m, hm, hle⟩ := inB_spec hi
        obtain ⟨n, cs, T, h1, h2, h3, h4, h5⟩ := hA.cell k b hb
        rw [hm] at h1; injection h1 with h1; subst h1
        have hcell : w.w.cell? ⟨b, off, none⟩ = some v := by
          rw [cell_of_row w.w b off cs T (0, 0) h2]; exact h5 off v (by omega) hg
        refine ⟨_, _, _, _, h, rfl, by simp, ?_, by simp [hm]; omega, fun w' _ hvc => ?_⟩
        · intro q hq; rw [List.mem_singleton] at hq; subst hq; exact ⟨b, hb, hcell⟩
        · obtain ⟨b', hb', hc'⟩ := hvc _ (List.mem_singleton_self _)
          simp only at hb' hc'
          rw [hb] at hb'; injection hb' with hb'; subst hb'
          simp [execOp, Instr.loadAt, hv, Instr.sureAddr, loadVar, vtOf_one hc, hc']
      · exact h.elim
    · rename_i k off cs hx hc
      split at h
      · rename_i n hn
        split at h
        · rename_i vs hbi hg
          obtain ⟨b, hb, hv⟩ := ev_sound hA hx
          simp only [Bool.and_eq_true] at hbi
          obtain ⟨m, hm, hle⟩ := inB_spec hbi.2
          obtain ⟨n', cs', T, h1, h2, h3, h4, h5⟩ := hA.cell k b hb
          rw [hm] at h1; injection h1 with h1; subst h1
          obtain ⟨hl, hg⟩ := gets_spec hg
          have hcell : ∀ j v, vs[j]? = some v → w.w.cell? ⟨b, off + j, none⟩ = some v := fun j v hj => by
            have hjl : j < vs.length := (List.getElem?_eq_some_iff.1 hj).1
            rw [cell_of_row w.w b (off + j) cs' T (0, 0) h2]
            exact h5 (off + j) v (by omega) (by rw [← Nat.add_assoc]; exact hg j v hj)
          refine ⟨_, _, _, _, h, rfl, by simp, (vkeys_mem hb).2 hcell, fun k hk => ?_, fun w' _ hvc => ?_⟩
          · obtain ⟨h1', h2'⟩ := vkeys_off hk
            rw [h1', hm]
            simp only [Option.getD_some]
            omega
          have hc' := (vkeys_mem hb).1 hvc
          have := run_loadCells_list (P := P) w' ⟨b, off, none⟩ vs (fun j v hj => by rw [Addr.add_mk]; exact hc' j v hj)
          rw [hl] at this
          simp [execOp, Instr.loadAt, hv, Instr.sureAddr, loadVar, vtOf_agg hc, sizeT_run hn, this]
        · exact h.elim
      · exact h.elim
    · exact h.elim
  all_goals exact h.elim
end
end Go.Proofs.Ythhohfgpaihngaa.Zg
