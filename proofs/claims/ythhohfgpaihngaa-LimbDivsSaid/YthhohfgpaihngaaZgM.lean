/- A part of the proofs of this seat's laws: words, lemmas or contracts of its functions. -/
import Derived.Test.YthhohfgpaihngaaZgL
set_option linter.unusedVariables false
set_option linter.unusedSimpArgs false
set_option linter.unnecessarySimpa false
namespace Go.Proofs.Ythhohfgpaihngaa.Zg
open Go.RowKit

section
variable {P : Program} {D : Dc}

/-- What stands behind a piece of code, whichever way it is left. -/
def Qd (D : Dc) (ws : List Nat) (β : Nat → Option Nat) (a : Act) (K : Env → TW → Prop) (X : Nat → Env → TW → Prop) (R : Env → TW → Prop) : Exit → Act → World → Prop
  | .normal, a', v => Nx D ws β a K a' v
  | .exit i, a', v => Nx D ws β a (X i) a' v
  | .ret, a', v => Nx D ws β a R a' v
  | _, _, _ => False

theorem Nx.mono {ws ws' : List Nat} (hs : ∀ t ∈ ws, t ∈ ws') {β : Nat → Option Nat} {a : Act} {K K' : Env → TW → Prop} (hK : ∀ e w, K e w → K' e w) {a' : Act} {v : World} (h : Nx D ws β a K a' v) : Nx D ws' β a K' a' v :=
  let ⟨β', e, w, h1, h2, h3, h4⟩ := h
  ⟨β', e, w, h1, h2, hK _ _ h3, h4.mono hs⟩

theorem Nx.trans {ws : List Nat} {β β' : Nat → Option Nat} {a a' : Act} {K : Env → TW → Prop} (hk : Kp D ws β β' a a') {a'' : Act} {v : World} (h : Nx D ws β' a' K a'' v) : Nx D ws β a K a'' v :=
  let ⟨β'', e, w, h1, h2, h3, h4⟩ := h
  ⟨β'', e, w, h1, h2, h3, hk.trans h4⟩

theorem Qd.mono {ws ws' : List Nat} (hs : ∀ t ∈ ws, t ∈ ws') {β : Nat → Option Nat} {a : Act} {K : Env → TW → Prop} {X : Nat → Env → TW → Prop} {R : Env → TW → Prop} {ex : Exit} {a' : Act} {v : World} (h : Qd D ws β a K X R ex a' v) : Qd D ws' β a K X R ex a' v := by
  cases ex <;> first | exact Nx.mono hs (fun _ _ h => h) h | exact h.elim

theorem Qd.trans {ws : List Nat} {β β' : Nat → Option Nat} {a a' : Act} (hk : Kp D ws β β' a a') {K : Env → TW → Prop} {X : Nat → Env → TW → Prop} {R : Env → TW → Prop} {ex : Exit} {a'' : Act} {v : World} (h : Qd D ws β' a' K X R ex a'' v) : Qd D ws β a K X R ex a'' v := by
  cases ex <;> first | exact Nx.trans hk h | exact h.elim

theorem into_spec {ts : List (Nat × VT)} {e : Env} {J : Tel (fl (tys ts)) (TW → Prop)} {w : TW} (h : into noW ts e J w) : ∃ vs x, vals e ts = some vs ∧ group (tys ts) (encs (fl (tys ts)) x) = vs ∧ app (fl (tys ts)) J x w := by
  unfold into at h
  cases hv : vals e ts with
  | none => rw [hv] at h; exact h.elim
  | some vs =>
    rw [hv] at h
    simp only at h
    cases hu : ungroup (tys ts) vs with
    | none => rw [hu] at h; exact h.elim
    | some l =>
      rw [hu] at h
      simp only at h
      cases hd : decs (fl (tys ts)) l with
      | none => rw [hd] at h; exact h.elim
      | some x =>
        rw [hd] at h
        exact ⟨vs, x, rfl, by rw [decs_encs hd, group_ungroup hu], h⟩

/-- A join: what was shown of the ways, and of the rest. -/
theorem joined_sound (hV : Vok D) {t : Option (List (Nat × VT))} {ws : List Nat} {e : Env} {A : (Env → TW → Prop) → Prop} {K : Env → TW → Prop} {β : Nat → Option Nat} {a : Act} {w : TW} (hA : Agree D β e a w) (h : joined D t ws e A K) :
    ∃ K', A K' ∧ ∀ a' v, Nx D ws β a K' a' v → Nx D ws β a K a' v := by
  unfold joined at h
  split at h
  · exact ⟨K, h, fun _ _ h => h⟩
  · rename_i ts
    obtain ⟨J, hJ, hrest⟩ := h
    rw [allT_lam] at hrest
    refine ⟨_, hJ, ?_⟩
    rintro a' v ⟨β', e', w', rfl, hA', hK, hk⟩
    obtain ⟨vs, x, h1, h2, h3⟩ := into_spec hK
    have hr := hrest x w' h3
    rw [app_lam] at hr
    refine ⟨β', envOf D ts x ws e, w', rfl, ?_, hr, hk⟩
    have := join_agree hV hA hA' hk h1
    unfold envOf
    rw [h2]
    exact this

theorem wrO_mem : ∀ {os : List Oper} {o : Oper} {i : Nat}, o ∈ os → o.dst = some i → i ∈ wrO os
  | [], _, _, ho, _ => by cases ho
  | o' :: os, o, i, ho, hi => by
    unfold wrO
    rcases List.mem_cons.1 ho with rfl | ho
    · rw [hi]; exact .head _
    · split
      · exact .tail _ (wrO_mem ho hi)
      · exact wrO_mem ho hi

/-- No select in any region. -/
def selOk : Code → Bool
  | .region _ ops _ => Region.noSelect ops
  | .seq a b => selOk a && selOk b
  | .cond _ a b => selOk a && selOk b
  | .block _ c => selOk c
  | .loop c => selOk c
  | _ => true

theorem drawn_sound (hV : Vok D) (hE : XtOk P D.ext) {ops : Array Oper} (hs : Region.noSelect ops = true) {K' : Env → TW → Prop} {Q : Exit → Act → World → Prop} {β : Nat → Option Nat} {e : Env} {a : Act} {w : TW}
    (hQ : ∀ a' v, Nx D (wrO ops.toList) β a K' a' v → Q .normal a' v) (hP : ∀ c a w, Q (.panic c) a w → False) (hA : Agree D β e a w) (h : dany P D ops ops.size (Array.replicate ops.size false) [] e w.drew K') :
    wpAnyF P ops Q ops.size [] (Array.replicate ops.size false) a { w.w with drawn := w.w.drawn + 1 } := by
  have hA' : Agree D β e a w.drew := hA.world (w' := w.drew) (fun _ _ _ => rfl) (Nat.le_refl _) (fun _ h => h) rfl
  exact dany_sound hV hE hs hQ (fun i o hi d hd => wrO_mem (Array.mem_toList_iff.2 (Array.mem_of_getElem? hi)) hd) hP _ _ [] [] β e a w.drew hA' (Kp.refl _ _ _) .nil h

theorem exists_least {p : Nat → Prop} (h : ∃ m, p m) : ∃ m, p m ∧ ∀ k, p k → m ≤ k := by
  obtain ⟨m, hm⟩ := h
  induction m using Nat.strongRecOn with
  | _ m ih =>
    by_cases hk : ∃ k, k < m ∧ p k
    · obtain ⟨k, h1, h2⟩ := hk
      exact ih k h1 h2
    · exact ⟨m, hm, fun k hp => Nat.le_of_not_lt fun hlt => hk ⟨k, hlt, hp⟩⟩

open Classical in
theorem den_sound (hV : Vok D) (hE : XtOk P D.ext) (hm : P.follows .mixedOrders = true) : ∀ (c : Code), selOk c = true → ∀ (β : Nat → Option Nat) (e : Env) (a : Act) (w : TW) (K : Env → TW → Prop) (X : Nat → Env → TW → Prop) (R : Env → TW → Prop),
    Agree D β e a w → den P D c e w K X R → c.wp P (Qd D (wr c) β a K X R) a w.w
  | .skip, _, β, e, a, w, K, X, R, hA, h => wp_skip ⟨β, e, w, rfl, hA, h, Kp.refl _ _ _⟩
  | .region i ops false, _, β, e, a, w, K, X, R, hA, h => by
    simp only [den] at h
    obtain ⟨K', hK', hj⟩ := joined_sound hV hA h
    exact wp_region_list (dops_sound hV hE (fun a' v hn => hj a' v hn) (fun o ho i hi => wrO_mem ho hi) hA (Kp.refl _ _ _) hK')
  | .region i ops true, hs, β, e, a, w, K, X, R, hA, h => by
    simp only [den] at h
    obtain ⟨K', hK', hj⟩ := joined_sound hV hA h
    refine wp_region_any hm (wpAny_of_F _ [] _ _ _ ?_)
    have hs' : Region.noSelect ops = true := hs
    exact drawn_sound hV hE hs' (fun a' v hn => hj a' v hn) (fun c a w h => h) hA hK'
  | .seq c d, hs, β, e, a, w, K, X, R, hA, h => by
    simp only [den] at h
    simp only [selOk, Bool.and_eq_true] at hs
    refine wp_seq (wp_mono (den_sound hV hE hm c hs.1 β e a w _ X R hA h) ?_)
    intro ex a' v hq
    cases ex with
    | normal =>
      obtain ⟨β', e', w', rfl, hA', hK, hk⟩ := hq
      refine wp_mono (den_sound hV hE hm d hs.2 β' e' a' w' K X R hA' hK) ?_
      intro ex a'' v hq
      exact (hq.mono (ws' := wr (.seq c d)) (fun t ht => List.mem_append_right _ ht)).trans (hk.mono (fun t ht => List.mem_append_left _ ht))
    | exit i => exact Qd.mono (ex := .exit i) (fun t ht => List.mem_append_left _ ht) hq
    | ret => exact Qd.mono (ex := .ret) (fun t ht => List.mem_append_left _ ht) hq
    | _ => exact hq.elim
  | .cond c t f, hs, β, e, a, w, K, X, R, hA, h => by
    simp only [den] at h
    simp only [selOk, Bool.and_eq_true] at hs
    split at h
    · rename_i x hx
      obtain ⟨K', hK', hj⟩ := joined_sound hV hA h
      have fin : ∀ (d : Code), (∀ i ∈ wr d, i ∈ wr (.cond c t f)) → d.wp P (Qd D (wr d) β a K' X R) a w.w → d.wp P (Qd D (wr (.cond c t f)) β a K X R) a w.w := fun d hd hw => wp_mono hw (fun ex a' v hq => by
        have hq := Qd.mono hd hq
        cases ex with
        | normal => exact hj a' v hq
        | _ => exact hq)
      cases x with
      | true => exact wp_cond_true (evv_sound hA hx) (fin t (fun i hi => List.mem_append_left _ hi) (den_sound hV hE hm t hs.1 β e a w K' X R hA hK'))
      | false => exact wp_cond_false (evv_sound hA hx) (fin f (fun i hi => List.mem_append_right _ hi) (den_sound hV hE hm f hs.2 β e a w K' X R hA hK'))
    · exact h.elim
  | .block i c, hs, β, e, a, w, K, X, R, hA, h => by
    simp only [den] at h
    obtain ⟨K', hK', hj⟩ := joined_sound hV hA h
    refine wp_block (wp_mono (den_sound hV hE hm c hs β e a w K' _ R hA hK') ?_)
    intro ex a' v hq
    cases ex with
    | normal => exact hj a' v hq
    | exit j =>
      simp only [Exit.inBlock]
      obtain ⟨β', e', w', rfl, hA', hX, hk⟩ := hq
      cases hb : Nat.beq j i with
      | true =>
        have := Nat.eq_of_beq_eq_true hb
        subst this
        rw [hb] at hX
        rw [if_pos rfl]
        exact hj a' _ ⟨β', e', w', rfl, hA', hX, hk⟩
      | false =>
        rw [hb] at hX
        rw [if_neg (beq_false hb)]
        exact ⟨β', e', w', rfl, hA', hX, hk⟩
    | ret => exact hq
    | _ => exact hq.elim
  | .loop c, hs, β, e, a, w, K, X, R, hA, h => by
    simp only [den] at h
    split at h
    · exact h.elim
    · rename_i ts hts
      obtain ⟨vs, x, h1, h2, h3⟩ := into_spec h
      unfold Lp at h3
      rw [app_lam] at h3
      obtain ⟨I, ⟨m, hI⟩, hstep⟩ := h3
      -- what holds at each round's head
      let G : Nat → Act → World → Prop := fun m a' v => ∃ β' w' x, w'.w = v ∧ Agree D β' (envOf D ts x (wr c) e) a' w' ∧ app (fl (tys ts)) (I m) x w' ∧ Kp D (wr c) β β' a a'
      let μ : Act → World → Nat := fun a' v => if h : ∃ m, G m a' v then Classical.choose (exists_least h) else 0
      have hμ : ∀ m a' v, G m a' v → μ a' v ≤ m := fun m a' v hg => by
        have : ∃ m, G m a' v := ⟨m, hg⟩
        simp only [μ, dif_pos this]
        exact (Classical.choose_spec (exists_least this)).2 m hg
      refine wp_loop (fun a' v => ∃ m, G m a' v) μ ⟨m, β, w, x, rfl, ?_, hI, Kp.refl _ _ _⟩ ?_
      · have := join_agree hV hA hA (Kp.refl (wr c) β a) h1
        unfold envOf
        rw [h2]
        exact this
      · intro a' v hg
        have hgm : G (μ a' v) a' v := by
          simp only [μ, dif_pos hg]
          exact (Classical.choose_spec (exists_least hg)).1
        obtain ⟨β', w', x', rfl, hA', hI', hk⟩ := hgm
        have hst := (allT_lam _ _).1 (hstep (μ a' w'.w)) x' w' hI'
        rw [app_lam] at hst
        refine wp_mono (den_sound hV hE hm c hs β' _ a' w' _ X R hA' hst) ?_
        intro ex a'' v hq
        cases ex with
        | normal =>
          obtain ⟨β'', e'', w'', rfl, hA'', hC, hk'⟩ := hq
          obtain ⟨vs', y, q1, q2, q3⟩ := into_spec hC
          rw [app_lam] at q3
          obtain ⟨m', hm', hI''⟩ := q3
          have hg' : G m' a'' w''.w := by
            refine ⟨β'', w'', y, rfl, ?_, hI'', hk.trans hk'⟩
            have := join_agree hV hA hA'' (hk.trans hk') q1
            unfold envOf
            rw [q2]
            exact this
          exact ⟨⟨m', hg'⟩, Nat.lt_of_le_of_lt (hμ _ _ _ hg') hm'⟩
        | exit i => exact Qd.trans (ex := .exit i) hk hq
        | ret => exact Qd.trans (ex := .ret) hk hq
        | _ => exact hq.elim
  | .exit i, _, β, e, a, w, K, X, R, hA, h => wp_exit ⟨β, e, w, rfl, hA, h, Kp.refl _ _ _⟩
  | .ret, _, β, e, a, w, K, X, R, hA, h => wp_ret ⟨β, e, w, rfl, hA, h, Kp.refl _ _ _⟩
  | .rangeFunc .., _, _, _, _, _, _, _, _, _, h => h.elim
  | .scope _, _, _, _, _, _, _, _, _, _, h => h.elim
  | .label _, _, _, _, _, _, _, _, _, _, h => h.elim
  | .goto _, _, _, _, _, _, _, _, _, _, h => h.elim
  | .refuse _, _, _, _, _, _, _, _, _, _, h => h.elim

theorem load_asAddr {ty : TypeId} {x u : Value} {w : World} (h : ((do pure (.value (← Instr.loadAt ty x)) : Sem Next)).run P w = .ok (.value u) w) : ((do loadVar ty (← asAddr x) : Sem Value)).run P w = .ok u w := by
  cases x
  case pointer p =>
    cases p with
    | none => simp [Instr.loadAt, Instr.sureAddr, stuck] at h
    | some ad =>
      simp only [Instr.loadAt, Instr.sureAddr, asAddr, Sem.run_bind, Sem.run_pure, Result.andThen_ok] at h ⊢
      cases hq : (loadVar ty ad).run P w with
      | ok y w' => rw [hq] at h; simp only [Result.andThen_ok, Result.ok.injEq, Next.value.injEq] at h; rw [h.1, h.2]
      | halt y w' => rw [hq] at h; simp [Result.andThen] at h
  all_goals simp [Instr.loadAt, Instr.sureAddr, stuck] at h

theorem rvs_sound {β : Nat → Option Nat} {e : Env} {a : Act} {w : TW} (hA : Agree D β e a w) : ∀ {rs : List ResultVar} {K : List Value → Prop}, rvs P D e w rs K → ∃ vs, K vs ∧ vs.length = rs.length ∧
    (rs.mapM (fun | .tmp t => pure (a.tmps.getD t undef) | .cell t ty => do loadVar ty (← asAddr (a.tmps.getD t undef)) : ResultVar → Sem Value)).run P w.w = .ok vs w.w
  | [], K, h => ⟨[], h, rfl, rfl⟩
  | .tmp t :: rs, K, h => by
    simp only [rvs] at h
    split at h
    · rename_i v hv
      obtain ⟨vs, hK, hl, hr⟩ := rvs_sound hA h
      have hx := ev_sound hA hv
      simp only [SVR, Act.eval] at hx
      refine ⟨v :: vs, hK, by simp [hl], ?_⟩
      simp only [List.mapM_cons, Sem.run_bind, Sem.run_pure, Result.andThen_ok, hx]
      rw [hr]
      rfl
    · exact h.elim
  | .cell t ty :: rs, K, h => by
    simp only [rvs] at h
    obtain ⟨s, v, cs, ks, hK, hs, hcs, hks, _, hy⟩ := lop_sound hA h
    have hrun := hy w.w hcs hks
    cases s with
    | v u =>
      simp only [SVR] at hs
      subst hs
      simp only at hK
      obtain ⟨vs, hK, hl, hr⟩ := rvs_sound hA hK
      refine ⟨v :: vs, hK, by simp [hl], ?_⟩
      have h3 := load_asAddr (P := P) (x := a.tmps.getD t undef) (ty := ty) (u := v) (w := w.w) hrun
      simp only [List.mapM_cons, Sem.run_bind, Sem.run_pure, Result.andThen_ok] at h3 ⊢
      rw [h3]
      simp only [Result.andThen_ok]
      rw [hr]
      rfl
    | p h off => exact hK.elim
    | q => exact hK.elim

theorem results_run {β : Nat → Option Nat} {e : Env} {a : Act} {w : TW} (hA : Agree D β e a w) {fn : Func} {R : Value → TW → Prop} (h : rvs P D e w fn.results.toList fun vs => R (ret vs) w) : ∃ v, (results fn a.tmps).run P w.w = .ok v w.w ∧ R v w := by
  obtain ⟨vs, hR, hl, hr⟩ := rvs_sound hA h
  refine ⟨ret vs, ?_, hR⟩
  unfold results
  simp only [Sem.run_bind]
  have hm : (fn.results.mapM (fun | .tmp t => pure (a.tmps.getD t undef) | .cell t ty => do loadVar ty (← asAddr (a.tmps.getD t undef)) : ResultVar → Sem Value)).run P w.w = .ok vs.toArray w.w := by
    rw [Array.mapM_eq_mapM_toList]
    simp only [Sem.run_map]
    rw [hr]
    rfl
  refine Eq.trans (congrArg (fun r : Result (Array Value) => r.andThen fun vs w' => Sem.run P (pure (if h : vs.size = 1 then vs[0] else .tuple vs)) w') hm) ?_
  simp only [Result.andThen_ok, Sem.run_pure]
  cases vs with
  | nil => rfl
  | cons x xs => cases xs with
    | nil => rfl
    | cons y ys => rfl

/-- **A function's reading serves every run of it.** -/
theorem calls_of_den {D : Dc} {f : FuncId} {fn : Func} {c : Code} {as : List Value} {R : Value → TW → Prop} {w : TW} (hV : apartB D.N D.vb = true) (hE : XtOk P D.ext) (hm : P.follows .mixedOrders = true)
    (hf : P.funcs[f]? = some fn) (hb : fn.body = some c) (hn : Nat.beq fn.ntmps D.N = true) (ha : Nat.ble as.length D.N = true) (hs : selOk c = true) (hB : w.B ≤ w.w.heap.size) (h : denF P D fn c as w R) :
    Calls P f as.toArray w.w (fun e w' => ∃ v T', T'.w = w' ∧ e = .returned v ∧ R v T') := by
  have hV := Vok.of hV
  have hn := Nat.eq_of_beq_eq_true hn
  have ha := Nat.le_of_ble_eq_true ha
  refine calls_of_wp hf hb ?_
  have hA : Agree D (fun _ => none) (args 0 as) { tmps := as.toArray ++ Array.replicate (fn.ntmps - as.toArray.size) undef, defers := [] } w := by
    have hargs : ∀ (l : List Value) (k t : Nat) (s : SV), (args k l).get t = some s → ∃ v, s = .v v ∧ k ≤ t ∧ l[t - k]? = some v := by
      intro l
      induction l with
      | nil => intro k t s h; simp [args, Env.get] at h
      | cons v l ih =>
        intro k t s h
        rw [args, Env.get_cons] at h
        by_cases hkt : k = t
        · subst hkt
          simp at h
          exact ⟨v, h.symm, Nat.le_refl _, by simp⟩
        · rw [if_neg hkt] at h
          obtain ⟨u, h1, h2, h3⟩ := ih (k + 1) t s h
          refine ⟨u, h1, by omega, ?_⟩
          rw [show t - k = (t - (k + 1)) + 1 by omega]
          simpa using h3
    refine ⟨rfl, by simp; omega, hB, ?_, ?_, by simp, by simp⟩
    · intro t v ht hg
      obtain ⟨u, h1, _, h3⟩ := hargs as 0 t _ hg
      injection h1 with h1; subst h1
      simp only [Nat.sub_zero] at h3
      have hlt : t < as.length := (List.getElem?_eq_some_iff.1 h3).1
      simp [Array.getElem?_append, hlt]
      exact (List.getElem?_eq_some_iff.1 h3).2
    · intro t k off hg
      obtain ⟨u, h1, _⟩ := hargs as 0 t _ hg
      cases h1
  refine wp_mono (den_sound hV hE hm c hs _ _ _ w _ _ _ hA h) ?_
  have fin : ∀ a v, Nx D (wr c) (fun _ => none) { tmps := as.toArray ++ Array.replicate (fn.ntmps - as.toArray.size) undef, defers := [] } (fun e w => rvs P D e w fn.results.toList fun vs => R (ret vs) w) a v →
      a.defers = [] ∧ ∃ x, (results fn a.tmps).run P v = .ok x v ∧ ∃ v' T', T'.w = v ∧ Ending.returned x = .returned v' ∧ R v' T' := by
    rintro a v ⟨β', e', w', rfl, hA', hK, _⟩
    obtain ⟨x, h1, h2⟩ := results_run hA' hK
    exact ⟨hA'.defers, x, h1, x, w', rfl, rfl, h2⟩
  intro ex a v hq
  cases ex with
  | normal => exact fin a v hq
  | ret => exact fin a v hq
  | exit i =>
    obtain ⟨_, _, _, _, _, h, _⟩ := hq
    exact h.elim
  | _ => exact hq.elim
end
end Go.Proofs.Ythhohfgpaihngaa.Zg
