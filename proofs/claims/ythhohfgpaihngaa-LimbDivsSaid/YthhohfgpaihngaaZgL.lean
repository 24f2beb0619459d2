/- A part of the proofs of this seat's laws: words, lemmas or contracts of its functions. -/
import Derived.Test.YthhohfgpaihngaaZgK
set_option linter.unusedVariables false
set_option linter.unusedSimpArgs false
set_option linter.unnecessarySimpa false
namespace Go.Proofs.Ythhohfgpaihngaa.Zg
open Go.RowKit

section
variable {P : Program} {D : Dc} {ops : Array Oper} {Q : Exit → Act → World → Prop}

/-- What has been taken ahead of its time, and the cells it hangs on, in the world as it is. -/
structure Took (D : Dc) (β : Nat → Option Nat) (w : World) (t : Tk) (x : Nat × List (Addr × Value)) : Prop where
  i : x.1 = t.i
  cells : x.2 = t.cells ++ t.keys.map fun k => (⟨(β k.1).getD 0, k.2.1, none⟩, k.2.2)
  keys : ∀ k ∈ t.keys, (∃ b, β k.1 = some b) ∧ k.2.1 < (nat? D.vb k.1).getD 0
  holds : holdsC w x.2

inductive Tooks (D : Dc) (β : Nat → Option Nat) (w : World) : List Tk → Lk → Prop
  | nil : Tooks D β w [] []
  | cons {t : Tk} {x : Nat × List (Addr × Value)} {T : List Tk} {L : Lk} : Took D β w t x → Tooks D β w T L → Tooks D β w (t :: T) (x :: L)

theorem Tooks.holds {β : Nat → Option Nat} {w : World} {T : List Tk} {L : Lk} (h : Tooks D β w T L) : ∀ x ∈ L, holdsC w x.2 := by
  induction h with
  | nil => simp
  | cons h _ ih => intro x hx; rcases List.mem_cons.1 hx with rfl | hx; exact h.holds; exact ih x hx

theorem Tooks.later {β : Nat → Option Nat} {w : World} {T : List Tk} {L : Lk} (h : Tooks D β w T L) (j : Nat) : Tooks D β w (dropT ops.toList j T) (Zg.later ops j L) := by
  induction h with
  | nil => exact .nil
  | @cons t x T L h hs ih =>
    unfold dropT
    cases hw : waits ops.toList j t.i with
    | true => simpa [Zg.later, h.i, hw] using ih
    | false =>
      have : Zg.later ops j (x :: L) = x :: Zg.later ops j L := by simp [Zg.later, h.i, hw]
      rw [this]
      exact .cons h ih

theorem cellsT_mem : ∀ {T : List Tk} {t : Tk} {x : Addr × Value}, t ∈ T → x ∈ t.cells → x ∈ cellsT T
  | t' :: T, t, x, ht, hx => by
    rcases List.mem_cons.1 ht with rfl | ht
    · exact List.mem_append_left _ hx
    · exact List.mem_append_right _ (cellsT_mem ht hx)
theorem keysT_mem : ∀ {T : List Tk} {t : Tk} {x : Nat × Nat × Value}, t ∈ T → x ∈ t.keys → x ∈ keysT T
  | t' :: T, t, x, ht, hx => by
    rcases List.mem_cons.1 ht with rfl | ht
    · exact List.mem_append_left _ hx
    · exact List.mem_append_right _ (keysT_mem ht hx)

/-- A step that keeps the cells keeps what was taken. -/
theorem Tooks.step {β β' : Nat → Option Nat} {w w' : World} {T : List Tk} {L : Lk} (h : Tooks D β w T L) (hc : ∀ x ∈ cellsT T, w'.cell? x.1 = some x.2)
    (hk : ∀ k ∈ keysT T, ∀ b, β k.1 = some b → k.2.1 < (nat? D.vb k.1).getD 0 → w.cell? ⟨b, k.2.1, none⟩ = some k.2.2 → β' k.1 = some b ∧ w'.cell? ⟨b, k.2.1, none⟩ = some k.2.2) : Tooks D β' w' T L := by
  induction h with
  | nil => exact .nil
  | @cons t x T L h hs ih =>
    refine .cons ?_ (ih (fun x hx => hc x (List.mem_append_right _ hx)) (fun k hx => hk k (List.mem_append_right _ hx)))
    have hold := h.holds
    have hkey : ∀ k ∈ t.keys, ∃ b, β k.1 = some b ∧ β' k.1 = some b ∧ w'.cell? ⟨b, k.2.1, none⟩ = some k.2.2 := fun k hkm => by
      obtain ⟨⟨b, hb⟩, ho⟩ := h.keys k hkm
      have hcell : w.cell? ⟨b, k.2.1, none⟩ = some k.2.2 := by
        have := hold (⟨(β k.1).getD 0, k.2.1, none⟩, k.2.2) (by rw [h.cells]; exact List.mem_append_right _ (List.mem_map.2 ⟨k, hkm, rfl⟩))
        simpa [hb] using this
      have := hk k (List.mem_append_left _ hkm) b hb ho hcell
      exact ⟨b, hb, this⟩
    refine ⟨h.i, ?_, fun k hkm => ?_, ?_⟩
    · rw [h.cells]
      congr 1
      refine List.map_congr_left fun k hkm => ?_
      obtain ⟨b, h1, h2, _⟩ := hkey k hkm
      simp [h1, h2]
    · obtain ⟨b, h1, h2, _⟩ := hkey k hkm
      exact ⟨⟨b, h2⟩, (h.keys k hkm).2⟩
    · intro y hy
      rw [h.cells] at hy
      rcases List.mem_append.1 hy with hy | hy
      · exact hc y (List.mem_append_left _ hy)
      · obtain ⟨k, hkm, rfl⟩ := List.mem_map.1 hy
        obtain ⟨b, h1, h2, h3⟩ := hkey k hkm
        simpa [h1] using h3

theorem hld_spec {w : TW} {l : List (Addr × Value)} {K : Prop} (h : hld w l K) : (∀ x ∈ l, w.w.cell? x.1 = some x.2) ∧ K := by
  cases l with
  | nil => exact ⟨by simp, h⟩
  | cons x xs => exact h

theorem keysKept_spec {e e' : Env} {ks : List (Nat × Nat × Value)} (h : keysKept e e' ks = true) : ∀ k ∈ ks, memN ((e'.take (e'.length - e.length)).map (·.1)) (k.1 + k.2.1) = false := by
  unfold keysKept at h
  rw [List.all_eq_true] at h
  intro k hk
  simpa using h k hk

theorem allOf_spec : ∀ {l : List Nat} {K : Nat → Prop}, allOf l K → ∀ i ∈ l, K i
  | [], _, _ => by simp
  | [i], K, h => by intro j hj; rw [List.mem_singleton] at hj; subst hj; exact h
  | i :: j :: is, K, h => by
    intro k hk
    rcases List.mem_cons.1 hk with rfl | hk
    · exact h.1
    · exact allOf_spec h.2 k hk

theorem firstPure_spec : ∀ {l : List Nat} {i : Nat} {o : Oper}, firstPure ops.toList l = some (i, o) → i ∈ l ∧ ops[i]? = some o ∧ kd o ≠ .loud
  | [], i, o, h => by simp [firstPure] at h
  | k :: l, i, o, h => by
    unfold firstPure at h
    split at h
    · rename_i o' ho
      split at h
      · obtain ⟨h1, h2⟩ := firstPure_spec h
        exact ⟨.tail _ h1, h2⟩
      · rename_i hk
        simp only [Option.some.injEq, Prod.mk.injEq] at h
        obtain ⟨rfl, rfl⟩ := h
        exact ⟨.head _, by simpa using ho, hk⟩
    · obtain ⟨h1, h2⟩ := firstPure_spec h
      exact ⟨.tail _ h1, h2⟩

theorem wpAnyF_more : ∀ (fuel i : Nat) (L : Lk) (listed : Array Bool) (a : Act) (w : World), wpAnyF P ops Q fuel L listed a w → wpAnyF P ops Q fuel ((i, []) :: L) listed a w
  | 0, _, _, _, _, _, h => h
  | fuel + 1, i, L, listed, a, w, h => ⟨h.1, fun j hj => wpOp_mono (fun a' w' h' => by
      by_cases hx : waits ops.toList j i = true
      · have e : later ops j ((i, []) :: L) = later ops j L := by simp [later, hx]
        rw [e]
        exact h'
      · have e : later ops j ((i, []) :: L) = (i, []) :: later ops j L := by simp [later, hx]
        rw [e]
        refine ⟨fun y hy => ?_, wpAnyF_more fuel i _ _ _ _ h'.2⟩
        rcases List.mem_cons.1 hy with rfl | hy
        · simp [holdsC]
        · exact h'.1 y hy) (h.2 j hj)⟩

theorem wpAnyF_filter : ∀ (f : Nat) (L : Lk) (p : Nat × List (Addr × Value) → Bool) (l : Array Bool) (a : Act) (w : World), wpAnyF P ops Q f L l a w → wpAnyF P ops Q f (L.filter p) l a w := by
  intro f
  induction f with
  | zero => exact fun _ _ _ _ _ h => h
  | succ f ihf =>
    intro L p l a w h
    refine ⟨h.1, fun j hj => wpOp_mono (fun a' w' h' => ?_) (h.2 j hj)⟩
    have e : later ops j (L.filter p) = (later ops j L).filter p := by simp [later, List.filter_filter, Bool.and_comm]
    rw [e]
    exact ⟨fun x hx => h'.1 x (List.mem_filter.1 hx).1, ihf _ p _ _ _ h'.2⟩

theorem dany_sound (hV : Vok D) (hE : XtOk P D.ext) (hs : Region.noSelect ops = true) {K : Env → TW → Prop} {ws : List Nat} {β0 : Nat → Option Nat} {a0 : Act} (hQ : ∀ a v, Nx D ws β0 a0 K a v → Q .normal a v) (ho : ∀ (i : Nat) (o : Oper), ops[i]? = some o → ∀ d, o.dst = some d → d ∈ ws) (hP : ∀ c a w, Q (.panic c) a w → False) :
    ∀ (fuel : Nat) (listed : Array Bool) (T : List Tk) (L : Lk) (β : Nat → Option Nat) (e : Env) (a : Act) (w : TW), Agree D β e a w → Kp D ws β0 β a0 a → Tooks D β w.w T L → dany P D ops fuel listed T e w K → wpAnyF P ops Q fuel L listed a w.w := by
  intro fuel
  induction fuel with
  | zero =>
    intro listed T L β e a w hA hkp hT h
    unfold dany at h
    split at h
    · rename_i hr
      exact ⟨hr, hQ _ _ ⟨β, e, w, rfl, hA, h, hkp⟩⟩
    · exact h.elim
  | succ fuel ih =>
    intro listed T L β e a w hA hkp hT h
    unfold dany at h
    split at h
    · rename_i hr
      exact ⟨fun _ => hQ _ _ ⟨β, e, w, rfl, hA, h, hkp⟩, by rw [hr]; simp⟩
    · rename_i i0 is hr
      split at h
      · rename_i i o hfp
        obtain ⟨him, hio, hkd⟩ := firstPure_spec hfp
        split at h
        · exact h.elim
        · rename_i hfree
          have hready : i ∈ Region.ready .any ops listed := by rw [hr]; exact him
          obtain ⟨e', hA', ⟨hw, h⟩ | ⟨hw, h⟩⟩ := gd_sound hA h
          · split at h
            · obtain ⟨s, v, cs, ks, hK, hsv, hcs, hks, hoff, hy⟩ := lop_sound hA' h
              obtain ⟨e'', hA'', hK⟩ := dput_sound hA' hV hsv hK
              have htk : Took D β w.w ⟨i, cs, ks⟩ (i, cs ++ ks.map fun k => (⟨(β k.1).getD 0, k.2.1, none⟩, k.2.2)) := by
                refine ⟨rfl, rfl, fun k hk => ?_, ?_⟩
                · obtain ⟨b, hb, _⟩ := hks k hk
                  exact ⟨⟨b, hb⟩, hoff k hk⟩
                · intro x hx
                  rcases List.mem_append.1 hx with hx | hx
                  · exact hcs x hx
                  · obtain ⟨k, hk, rfl⟩ := List.mem_map.1 hx
                    obtain ⟨b, hb, hc⟩ := hks k hk
                    simpa [hb] using hc
              refine wpAnyF_first hio (Region.noSelect_spec hs) hP fuel L listed a w.w (Region.free_spec hio hfree) hready (v := v) (.inl ⟨hw, fun w' hw' => hy w' (fun x hx => hw' x (List.mem_append_left _ hx)) (fun k hk => ?_)⟩) htk.holds hT.holds (ih _ _ _ β e'' _ w hA'' (hkp.put (ho i o hio) v) (.cons htk hT) hK)
              obtain ⟨b, hb, hc⟩ := hks k hk
              have := hw' (⟨(β k.1).getD 0, k.2.1, none⟩, k.2.2) (List.mem_append_right _ (List.mem_map.2 ⟨k, hk, rfl⟩))
              exact ⟨b, hb, by simpa [hb] using this⟩
            · obtain ⟨s, v, hK, hsv, hy⟩ := pop_sound hA' h
              obtain ⟨e'', hA'', hK⟩ := dput_sound hA' hV hsv hK
              refine wpAnyF_first (rc := []) hio (Region.noSelect_spec hs) hP fuel L listed a w.w (Region.free_spec hio hfree) hready (v := v) (.inl ⟨hw, fun w' _ => hy w'⟩) (by simp [holdsC]) hT.holds ?_
              exact wpAnyF_more _ _ _ _ _ _ (ih _ T L β e'' _ w hA'' (hkp.put (ho i o hio) v) hT hK)
          · obtain ⟨e'', hA'', hK⟩ := dput_sound (s := .v undef) (v := undef) hA' hV rfl h
            refine wpAnyF_first (rc := []) hio (Region.noSelect_spec hs) hP fuel L listed a w.w (Region.free_spec hio hfree) hready (v := undef) (.inr ⟨hw, rfl⟩) (by simp [holdsC]) hT.holds ?_
            exact wpAnyF_more _ _ _ _ _ _ (ih _ T L β e'' _ w hA'' (hkp.put (ho i o hio) undef) hT hK)
      · rename_i hfp
        refine ⟨fun h0 => (by rw [hr] at h0; cases h0), fun j hj => ?_⟩
        rw [hr] at hj
        have hj' := allOf_spec h j hj
        split at hj'
        · exact hj'.elim
        · rename_i o hjo
          unfold wpOp
          rw [hjo]
          simp only
          obtain ⟨e', hA', ⟨hw, h⟩ | ⟨hw, h⟩⟩ := gd_sound hA hj'
          · rw [if_pos hw]
            refine .inl (Oper.wp_mono ?_ (wop_sound hA' hV hE h))
            rintro a' v' ⟨s, v, β', e'', w', rfl, rfl, hK, hA'', hsv, hkeep, hbe⟩
            split at hK
            · rename_i hkk
              obtain ⟨hc, hK⟩ := hld_spec hK
              have hT' := (hT.later (ops := ops) j).step (β' := β') (w' := w'.w) hc (fun k hk b hb ho hcell => hkeep k.1 k.2.1 b k.2.2 hb ho (keysKept_spec hkk k hk) hcell)
              refine ⟨hT'.holds, ?_⟩
              cases s with
              | none =>
                simp only [SRo] at hsv
                have hkp' := (hkp.step (ho j o hjo) hbe).put (ho j o hjo) v
                rw [hsv] at hkp' ⊢
                exact ih _ _ _ β' e'' _ w' hA'' hkp' hT' hK
              | some x =>
                obtain ⟨e3, hA3, hK⟩ := dput_sound hA'' hV hsv hK
                exact ih _ _ _ β' e3 _ w' hA3 ((hkp.step (ho j o hjo) hbe).put (ho j o hjo) v) hT' hK
            · exact hK.elim
          · rw [if_neg (by rw [hw]; simp)]
            obtain ⟨e'', hA'', hK⟩ := dput_sound (s := .v undef) (v := undef) hA' hV rfl h
            exact ⟨(hT.later (ops := ops) j).holds, wpAnyF_filter _ _ _ _ _ _ (ih _ T L β e'' _ w hA'' (hkp.put (ho j o hjo) undef) hT hK)⟩
end
end Go.Proofs.Ythhohfgpaihngaa.Zg
