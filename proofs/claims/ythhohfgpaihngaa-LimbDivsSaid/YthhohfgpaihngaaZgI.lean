/- A part of the proofs of this seat's laws: words, lemmas or contracts of its functions. -/
import Derived.Test.YthhohfgpaihngaaZgH
set_option linter.unusedVariables false
set_option linter.unusedSimpArgs false
set_option linter.unnecessarySimpa false
namespace Go.Proofs.Ythhohfgpaihngaa.Zg
open Go.RowKit

section
variable {P : Program} {D : Dc}

theorem New.keep {β : Nat → Option Nat} {e : Env} {a : Act} {w w' : TW} (hA : Agree D β e a w) {b : Nat} {cs : List Value} {T : TypeId} (h : New w b cs T w') : ∀ k c, β k = some c → w'.w.heap[c]? = w.w.heap[c]? :=
  fun _ c hk => by rw [h.is]; exact Below.heap_alloc w.w _ c (hA.lt hk)

/-- A new local block. -/
theorem After.newv {β : Nat → Option Nat} {e : Env} {a : Act} {w : TW} (hA : Agree D β e a w) (hV : Vok D) {d : Tmp} {K : Option SV → Env → TW → Prop} {h : Nat} {vs : List Value} {T : TypeId} {v : Value}
    (hm : nat? D.vb h = some vs.length) (hK : nwv w (K (some (.p h 0)) (putKeys h vs (clr h e)))) (hd : nat? D.va d = some h) (hv : v = .pointer (some ⟨w.w.heap.size, 0, none⟩)) : After D β e a w (some d) K (a.put (some d) v) (w.w.alloc (.cells vs.toArray T)) := by
  subst hv
  have hlt : ∀ b, (w.V b ∨ b = w.w.heap.size) → b < (w.w.alloc (.cells vs.toArray T)).heap.size := by
    intro b h
    rcases h with h | h
    · have := w.lt b h; simp; omega
    · subst h; simp
  let w' : TW := { w := w.w.alloc (.cells vs.toArray T), V := fun b => w.V b ∨ b = w.w.heap.size, B := w.B, lt := hlt }
  have hE : Ext none_ w w' := ⟨rfl, rfl, rfl, by simp [w'], rfl, fun _ h => .inl h, fun b h => h.imp id (fun h => by omega), fun k hk _ _ => Below.heap_alloc w.w _ k hk, fun k hk => shape_alloc _ _ _ hk⟩
  have hAn := hA.newv (w' := w') (T := T) hV hm rfl (heap_alloc_new w.w _) (fun k hk => Below.heap_alloc w.w _ k hk) hE.size (fun _ h => .inl h) (.inr rfl) rfl
  refine ⟨_, _, _, _, w', rfl, rfl, hK w' hE, hAn, ⟨w.w.heap.size, by simp, rfl⟩, ?_, fun k hk => if_neg (fun e' : k = h => hk d rfl (by rw [e']; exact hd))⟩
  intro h' off b u hb ho hk hc
  obtain ⟨l, h1, h2, h3⟩ := putKeys_eq vs h (clr h e)
  have hne : h' ≠ h := by
    intro e'
    subst e'
    rw [hm] at ho
    simp only [Option.getD_some] at ho
    rw [h1, List.length_append, clr_length, Nat.add_sub_cancel, List.take_left] at hk
    rw [memN_iff.2 (h3 (h' + off) (by omega) (by omega))] at hk
    cases hk
  exact ⟨by simp [hne, hb], (World.cell?_of_block (a := ⟨b, off, none⟩) (Below.heap_alloc w.w _ b (hA.lt hb))).trans hc⟩

theorem calls_wp {o : Oper} {a : Act} {w : World} {next : Act → World → Prop} {Q : Exit → Act → World → Prop} {f : FuncId} {args : Array Value} (hr : (execOp a.eval o).run P w = .ok (.enter f args) w)
    {K : Value → World → Prop} (hc : Calls P f args w (fun e w' => ∃ v, e = .returned v ∧ K v w')) (hn : ∀ v w', K v w' → next (a.put o.dst v) w') : o.wp P a w next Q := by
  unfold Oper.wp
  rw [hr, Oper.upon_enter]
  refine hc.mono ?_
  rintro e w' ⟨v, rfl, hK⟩
  exact hn v w' hK

theorem cl_sound {β : Nat → Option Nat} {e : Env} {a : Act} {w : TW} (hA : Agree D β e a w) {f : FuncId} {vs : List Value} {rt : List VT} {o : Oper} {K : Option SV → Env → TW → Prop} {Q : Exit → Act → World → Prop}
    (hr : (execOp a.eval o).run P w.w = .ok (.enter f vs.toArray) w.w) (h : cl P f vs w rt (lam (fl rt) fun x w' => K (some (.v (rets rt x))) e w')) : o.wp P a w.w (After D β e a w o.dst K) Q := by
  obtain ⟨X, hX, hc⟩ := h
  refine calls_wp hr (K := fun v w' => ∃ (x : HL (fl rt)) (T' : TW), T'.w = w' ∧ v = rets rt x ∧ Ext X w.here T' ∧ K (some (.v (rets rt x))) e (T'.at w.B)) (Calls.mono hc ?_) ?_
  · rintro e' w' ⟨x, T', rfl, rfl, hx, hK⟩
    rw [app_lam] at hK
    exact ⟨_, rfl, x, T', rfl, rfl, hx, hK⟩
  · rintro v w' ⟨x, T', rfl, rfl, hx, hK⟩
    refine After.far (w' := T'.at w.B) hA hK (fun k b hk => ?_) hx.size hx.sub rfl rfl
    obtain ⟨n, cs, T, _, h2, h3, _⟩ := hA.cell k b hk
    exact hx.block b (hA.lt hk) (fun hXb => hX b hXb h3.1) (.inl (hA.lt hk))

theorem wp_value {o : Oper} {a : Act} {w w' : World} {next : Act → World → Prop} {Q : Exit → Act → World → Prop} {v : Value} (hr : (execOp a.eval o).run P w = .ok (.value v) w') (hn : next (a.put o.dst v) w') : o.wp P a w next Q := by
  unfold Oper.wp
  rw [hr, Oper.upon_value]
  exact hn

theorem wp_skipped {o : Oper} {a : Act} {w w' : World} {next : Act → World → Prop} {Q : Exit → Act → World → Prop} (hr : (execOp a.eval o).run P w = .ok .skip w') (hn : next (a.put o.dst undef) w') : o.wp P a w next Q := by
  unfold Oper.wp
  rw [hr, Oper.upon_skip]
  exact hn

theorem isB_spec {h n : Nat} (hi : isB D h n = true) : nat? D.vb h = some n := by
  unfold isB at hi
  split at hi
  · rename_i m hm; rw [hm, Nat.eq_of_beq_eq_true hi]
  · cases hi

theorem wop_sound {β : Nat → Option Nat} {e : Env} {a : Act} {w : TW} (hA : Agree D β e a w) (hV : Vok D) (hE : XtOk P D.ext) {o : Oper} {K : Option SV → Env → TW → Prop} {Q : Exit → Act → World → Prop}
    (h : wop P D o e w K) : o.wp P a w.w (After D β e a w o.dst K) Q := by
  obtain ⟨dst, op, type, pos, after, guard⟩ := o
  cases op
  case alloc el =>
    simp only [wop] at h
    split at h
    · rename_i z d hz
      obtain ⟨zv, hzr, hzc⟩ := zeroL_run hz
      have hr : ∀ d', (execOp a.eval { dst := d', op := .alloc el, type, pos, after, guard }).run P w.w = .ok (.value (.pointer (some ⟨w.w.heap.size, 0, none⟩))) (w.w.alloc (.cells z.toArray el)) := fun d' => by
        have : zv.cells = z.toArray := by rw [← hzc]
        simp [execOp, Instr.alloc, hzr, newVar, newRow, this]
      split at h
      · exact wp_value (hr _) (After.ext (w' := w.alloc (.cells z.toArray el)) hA (h _ _ (New.mk' w z el)) ((New.mk' w z el).ext _) ((New.mk' w z el).keep hA) rfl)
      · rename_i hh hd
        split at h
        · rename_i hb
          exact wp_value (hr _) (After.newv hA hV (isB_spec hb) h hd rfl)
        · exact h.elim
    · exact h.elim
  case box el x =>
    simp only [wop] at h
    split at h
    · rename_i v d hv
      have hr : ∀ d', (execOp a.eval { dst := d', op := .box el x, type, pos, after, guard }).run P w.w = .ok (.value (.pointer (some ⟨w.w.heap.size, 0, none⟩))) (w.w.alloc (.cells v.cells.toList.toArray el)) := fun d' => by
        simp [execOp, Instr.box, evv_sound hA hv, newVar, newRow]
      split at h
      · exact wp_value (hr _) (After.ext (w' := w.alloc (.cells v.cells.toList.toArray el)) hA (h _ _ (New.mk' w v.cells.toList el)) ((New.mk' w v.cells.toList el).ext _) ((New.mk' w v.cells.toList el).keep hA) rfl)
      · rename_i hh hd
        split at h
        · rename_i hb
          exact wp_value (hr _) (After.newv hA hV (isB_spec hb) h hd rfl)
        · exact h.elim
    · exact h.elim
  case buildSlice t len parts =>
    simp only [wop] at h
    split at h
    · rename_i el ps ht hps
      split at h
      · rename_i sz z hsz hz
        split at h
        · rename_i cs hcs
          split at h
          · rename_i hb
            simp only [Bool.and_eq_true] at hb
            obtain ⟨b, w', hn, hr⟩ := run_bsl ht hsz hz (Nat.eq_of_beq_eq_true hb.2) hcs (Nat.le_of_ble_eq_true hb.1) (w := w)
            have h1 : parts.map (fun x => (x.1, a.eval x.2)) = ps.toArray := by rw [← evParts_sound hA hps, ← Array.toList_map]
            exact wp_value (v := .slice (some ⟨b, 0, none⟩) len len) (by simp [execOp, h1, hr]) (After.ext hA (h _ _ hn) (hn.ext _) (hn.keep hA) rfl)
          · exact h.elim
        · exact h.elim
      · exact h.elim
    · exact h.elim
  case makeSlice t l c =>
    simp only [wop] at h
    split at h
    · rename_i el k l' k' c' ht hl hc
      split at h
      · rename_i i z hi hz
        split at h
        · rename_i hb
          obtain ⟨h0, h1, h2, h3, hK⟩ := h
          obtain ⟨b, w', hn, hr⟩ := run_mks ht hi hz (Nat.eq_of_beq_eq_true hb) k k' h0 h1 h2 h3 (w := w)
          exact wp_value (v := .slice (some ⟨b, 0, none⟩) l'.toNat c'.toNat) (by simp [execOp, evv_sound hA hl, evv_sound hA hc, hr]) (After.ext hA (hK _ _ hn) (hn.ext _) (hn.keep hA) rfl)
        · exact h.elim
      · exact h.elim
    · exact h.elim
  case store t x y =>
    simp only [wop] at h
    split at h
    · rename_i ad v n hx hy hn
      split at h
      · rename_i hb
        have hb := Nat.eq_of_beq_eq_true hb
        have hxv := ev_sound hA hx
        simp only [SVR] at hxv
        obtain ⟨w', hr, hK, h1, h2, h3, hk⟩ := stcs_sound (P := P) h
        have hsz : v.cells.size = n := by simpa using hb
        refine wp_skipped (w' := w'.w) ?_ (After.far hA hK (fun k b hkb => ?_) (by omega) (fun b hb => by rw [h1]; exact hb) h2 rfl)
        · simp [execOp, Instr.storeAt, hxv, evv_sound hA hy, Instr.sureAddr, storeVar, sizeT_run hn, hsz, hr]
        · obtain ⟨n', cs, T, _, _, h3, _⟩ := hA.cell k b hkb
          exact hk b h3.1
      · exact h.elim
    · rename_i hh off v n hx hy hn
      split at h
      · rename_i hb
        simp only [Bool.and_eq_true] at hb
        obtain ⟨⟨hb1, hb2⟩, hb3⟩ := hb
        have hb1 := Nat.eq_of_beq_eq_true hb1
        obtain ⟨b, hβ, hxv⟩ := ev_sound hA hx
        obtain ⟨m, hm, hle⟩ := inB_spec hb3
        obtain ⟨m', cs, T, h1, h2, h3, h4, h5⟩ := hA.cell hh b hβ
        rw [hm] at h1; injection h1 with h1; subst h1
        have hsz : v.cells.size = n := by simpa using hb1
        have hr := run_storeCells_at P b off T v.cells.toList 0 cs w.w h2 (by simp; omega) (ones_spec hb2)
        simp only [Nat.add_zero] at hr
        have hle' : off + v.cells.toList.length ≤ m := by rw [hb1]; exact hle
        have hset := setRow_heap w.w b cs (cs.toList.take off ++ v.cells.toList ++ cs.toList.drop (off + v.cells.toList.length)).toArray T _ h2
        have hsize : (cs.toList.take off ++ v.cells.toList ++ cs.toList.drop (off + v.cells.toList.length)).toArray.size = cs.size := by
          simp only [List.size_toArray, List.length_append, List.length_take, List.length_drop, Array.length_toList, h4]; omega
        have hE := setRow_ext h2 _ hsize
        have hE' : Ext none_ w (w.row b (cs.toList.take off ++ v.cells.toList ++ cs.toList.drop (off + v.cells.toList.length)).toArray) :=
          ⟨hE.os, hE.tape, hE.output, hE.size, hE.floor, hE.sub, hE.new, fun k hk _ hkv => setRow_other w.w b k _ (fun e => by
            rw [e] at hkv
            have := h3.2
            exact hkv.elim (fun h => by omega) (fun h => h h3.1)), hE.shape⟩
        refine wp_skipped (w' := (w.row b (cs.toList.take off ++ v.cells.toList ++ cs.toList.drop (off + v.cells.toList.length)).toArray).w) ?_ ?_
        · simp only [execOp, Instr.storeAt, hxv, evv_sound hA hy, Instr.sureAddr, storeVar, sizeT_run hn, hsz, Sem.run_bind, Sem.run_pure, Result.andThen_ok, ne_eq, not_true_eq_false, if_false]
          rw [hr]
          rfl
        · refine ⟨none, undef, β, putKeys (hh + off) v.cells.toList e, _, rfl, rfl, h _ hE', hA.store hV hβ hm hle' h2 hset (fun k hk => setRow_other w.w b k _ hk) (by simp [TW.row, World.setRow]) rfl rfl, rfl, ?_, fun _ _ => rfl⟩
          intro h' off' b' u hb' ho' hk' hc'
          refine ⟨hb', ?_⟩
          by_cases hbb : b' = b
          · subst hbb
            have e1 : h' = hh := hA.inj _ _ _ hb' hβ
            subst e1
            obtain ⟨l, q1, q2, q3⟩ := putKeys_eq v.cells.toList (h' + off) e
            rw [q1, List.length_append, Nat.add_sub_cancel, List.take_left] at hk'
            have hnr : ¬ (h' + off ≤ h' + off' ∧ h' + off' < h' + off + v.cells.toList.length) := fun ⟨r1, r2⟩ => by
              rw [memN_iff.2 (q3 (h' + off') r1 r2)] at hk'; cases hk'
            have hg := cell_of_row (w.row b' (cs.toList.take off ++ v.cells.toList ++ cs.toList.drop (off + v.cells.toList.length)).toArray).w b' off' _ T (0, 0) hset
            rw [hg]
            rw [cell_of_row w.w b' off' cs T (0, 0) h2] at hc'
            have hcl : cs.toList.length = m := by simpa using h4
            simp only [List.getElem?_toArray]
            rcases Nat.lt_or_ge off' off with hi' | hi'
            · rw [List.append_assoc, List.getElem?_append_left (by simp [hcl]; omega), List.getElem?_take, if_pos hi']
              simpa using hc'
            · rw [List.getElem?_append_right (by simp [hcl]; omega)]
              simp only [List.length_append, List.length_take, hcl, List.getElem?_drop]
              rw [show off + v.cells.toList.length + (off' - (min off m + v.cells.toList.length)) = off' by omega]
              simpa using hc'
          · exact (World.cell?_of_block (a := ⟨b', off', none⟩) (setRow_other w.w b b' _ hbb)).trans hc'
      · exact h.elim
    · exact h.elim
  case call c =>
    obtain ⟨callee, args, argTypes⟩ := c
    cases callee
    case builtin b =>
      simp only [wop] at h
      split at h
      · -- append
        rename_i x y t u hargs htys
        obtain rfl : args = #[x, y] := by simpa using congrArg List.toArray hargs
        obtain rfl : argTypes = #[t, u] := by simpa using congrArg List.toArray htys
        split at h
        · rename_i el p n c p' n' c' htu ht hx hy
          obtain rfl := Nat.eq_of_beq_eq_true htu
          split at h
          · rename_i i z hi hz
            split at h
            · rename_i hb
              simp only [Bool.and_eq_true] at hb
              obtain ⟨hb1, hb2⟩ := hb
              have hb1 := Nat.eq_of_beq_eq_true hb1
              obtain ⟨B, ls, lx, hown, hrd, hB, h1, h63, hby, hK⟩ := h
              unfold zeroL at hz
              rw [hi] at hz
              simp only at hz
              split at hz
              · rename_i zv hzv
                injection hz with hz
                subst hz
                obtain ⟨s', w', hr, hown', hsn, hx', hloc, hkk⟩ := run_apd (P := P) (ty := type) ht hi hzv (by simpa using hb1) (by simpa [Nat.blt_eq] using hb2) hown hrd hB h1 h63 hby
                refine wp_value (v := s'.v) (w' := w'.w) ?_ (After.far hA (hK s' w' hown' hsn hx' hloc) (fun k b hkb => ?_) hx'.size hx'.sub hx'.floor rfl)
                · simp only [Sl.v] at hr
                  simp [execOp, resolve, invoke, builtin, evv_sound hA hx, evv_sound hA hy, hr]
                · obtain ⟨n', cs, T, _, _, h3, _⟩ := hA.cell k b hkb
                  exact hkk b (hA.lt hkb) (fun hb' => hown.2 b hb' h3.1)
              · cases hz
            · exact h.elim
          · exact h.elim
        · exact h.elim
      · -- copy
        rename_i x y t u hargs htys
        obtain rfl : args = #[x, y] := by simpa using congrArg List.toArray hargs
        obtain rfl : argTypes = #[t, u] := by simpa using congrArg List.toArray htys
        split at h
        · rename_i el p n c p' n' c' ht hx hy
          split at h
          · rename_i hsz
            have hs1 : (P.info? el).map (·.size) = some 1 := by
              unfold sizeT at hsz
              split at hsz
              · rename_i i hi; rw [hi]; exact hsz
              · cases hsz
            rcases h with ⟨h0, hK⟩ | ⟨lx, b, o, cur, hrd, h1, hp, hnV, hg, hfit, hK⟩
            · have hr := run_copy_none (P := P) w.w t u type el p p' n c n' c' ht hs1 (by simpa [Nat.min_def] using h0)
              exact wp_value (v := goInt 0) (w' := w.w) (by simp [execOp, resolve, invoke, builtin, evv_sound hA hx, evv_sound hA hy, hr]) (After.ext (w' := w) hA hK (Ext.refl _ _) (fun _ _ _ => rfl) rfl)
            · simp only at hp hfit hK
              subst hp
              obtain ⟨hl, hnc, hcm, hcell⟩ := hrd
              simp only [Nat.mul_one] at hl hnc hcm hcell
              have hlen : (lx.take (min n' n)).length = min n' n := by rw [List.length_take, hl]; omega
              have hsize : (cur.toList.take o ++ lx.take (min n' n) ++ cur.toList.drop (o + (lx.take (min n' n)).length)).toArray.size = cur.size := by
                rw [hlen]
                simp only [List.size_toArray, List.length_append, List.length_take, List.length_drop, Array.length_toList, hl]; omega
              have hset := setRow_heap w.w b cur (cur.toList.take o ++ lx.take (min n' n) ++ cur.toList.drop (o + (lx.take (min n' n)).length)).toArray _ _ hg
              have hE := setRow_ext hg (cur.toList.take o ++ lx.take (min n' n) ++ cur.toList.drop (o + (lx.take (min n' n)).length)).toArray hsize
              have hK' := hK (w.row b (cur.toList.take o ++ lx.take (min n' n) ++ cur.toList.drop (o + (lx.take (min n' n)).length)).toArray) (by simp only [TW.row]; rw [hset]; simp [splice]) hE
              have hkeep : ∀ k c', β k = some c' → (w.row b (cur.toList.take o ++ lx.take (min n' n) ++ cur.toList.drop (o + (lx.take (min n' n)).length)).toArray).w.heap[c']? = w.w.heap[c']? := fun k c' hkc => by
                obtain ⟨_, _, _, _, _, h3, _⟩ := hA.cell k c' hkc
                exact setRow_other w.w b c' _ (fun e => hnV (e ▸ h3.1))
              by_cases hlx : lx = []
              · subst hlx
                have hm0 : min n' n = 0 := by simp at hl; omega
                have hr := run_copy_none (P := P) w.w t u type el (some ⟨b, o, none⟩) p' n c n' c' ht hs1 (by simpa [Nat.min_def] using hm0)
                have hrow : w.w.setRow b (cur.toList.take o ++ ([] : List Value).take (min n' n) ++ cur.toList.drop (o + (([] : List Value).take (min n' n)).length)).toArray = w.w := by
                  have := setRow_self w.w b cur el (0, 0) hg
                  simpa using this
                refine wp_value (v := goInt (min n' n : Nat)) (w' := (w.row b (cur.toList.take o ++ ([] : List Value).take (min n' n) ++ cur.toList.drop (o + (([] : List Value).take (min n' n)).length)).toArray).w) ?_ (After.far hA hK' hkeep hE.size hE.sub hE.floor rfl)
                simp only [execOp, resolve, invoke, builtin, List.map_toArray, List.map_cons, List.map_nil, evv_sound hA hx, evv_sound hA hy, Sem.run_bind, Sem.run_pure, Result.andThen_ok]
                rw [hr]
                simp only [TW.row]
                rw [hrow, hm0]
                simp
              · obtain ⟨b2, o2, hp2, _, hc2⟩ := hcell hlx
                subst hp2
                have hr := run_copy_row (P := P) w.w t u type el b o n c ⟨b2, o2, none⟩ n' c' cur el (lx.take (min n' n)) ht hs1 hg (by rw [hlen]) (fun j v hj => by
                  rw [Addr.add_mk]
                  refine hc2 j v ?_
                  rw [List.getElem?_take] at hj
                  split at hj
                  · exact hj
                  · cases hj) (by rw [hlen]; exact hfit) (fun v hv => h1 v (List.mem_of_mem_take hv))
                rw [hlen] at hr
                refine wp_value (v := goInt (min n' n : Nat)) (w' := (w.row b (cur.toList.take o ++ lx.take (min n' n) ++ cur.toList.drop (o + (lx.take (min n' n)).length)).toArray).w) ?_ (After.far hA hK' hkeep hE.size hE.sub hE.floor rfl)
                simp only [execOp, resolve, invoke, builtin, List.map_toArray, List.map_cons, List.map_nil, evv_sound hA hx, evv_sound hA hy, Sem.run_bind, Sem.run_pure, Result.andThen_ok]
                rw [hr]
                simp [hlen, TW.row]
          · exact h.elim
        · exact h.elim
      · exact h.elim
    case value g =>
      cases g
      case func f =>
        simp only [wop] at h
        split at h
        · -- Add64
          rename_i hf
          obtain ⟨fn, h1, h2, h3, h4, h5⟩ := hE.add f hf
          split at h
          · rename_i kx x ky y kc c hvs
            obtain ⟨p, q, r, rfl, rfl, rfl, hr1, hK⟩ := h
            have hargs := evvs_sound hA hvs
            have e : args.map a.eval = #[.int kx p, .int ky q, .int kc r] := by
              have := congrArg List.toArray hargs
              rw [← Array.toList_map] at this
              exact this
            refine wp_value (w' := w.w) (v := .tuple #[.int .u64 ((p + q + r) % 18446744073709551616 : Nat), .int .u64 ((p + q + r) / 18446744073709551616 : Nat)]) ?_ (After.ext (w' := w) hA hK (Ext.refl _ _) (fun _ _ _ => rfl) rfl)
            have hx := run_callFunc_extern (P := P) h1 h2 h3 h4 h5 #[.int kx p, .int ky q, .int kc r] w.w
            have hrow : (add64Entry #[.int kx (p : Int), .int ky (q : Int), .int kc (r : Int)]).run P w.w = .ok (.tuple #[.int .u64 ((p + q + r) % 18446744073709551616 : Nat), .int .u64 ((p + q + r) / 18446744073709551616 : Nat)]) w.w := by
              have : r = 0 ∨ r = 1 := by omega
              rcases this with rfl | rfl <;> rfl
            rw [hrow] at hx
            simp [execOp, resolve, Act.eval, Deferred.ofValue, invoke, e, hx]
          · exact h.elim
        · -- Sub64
          rename_i hf
          obtain ⟨fn, h1, h2, h3, h4, h5⟩ := hE.sub f hf
          split at h
          · rename_i kx x ky y kc c hvs
            obtain ⟨p, q, r, rfl, rfl, rfl, hr1, hK⟩ := h
            have hargs := evvs_sound hA hvs
            have e : args.map a.eval = #[.int kx p, .int ky q, .int kc r] := by
              have := congrArg List.toArray hargs
              rw [← Array.toList_map] at this
              exact this
            refine wp_value (w' := w.w) (v := .tuple #[.int .u64 ((p + 18446744073709551616 - q - r) % 18446744073709551616 : Nat), .int .u64 (if p < q + r then 1 else 0 : Nat)]) ?_ (After.ext (w' := w) hA hK (Ext.refl _ _) (fun _ _ _ => rfl) rfl)
            have hx := run_callFunc_extern (P := P) h1 h2 h3 h4 h5 #[.int kx p, .int ky q, .int kc r] w.w
            have hrow : (sub64Entry #[.int kx (p : Int), .int ky (q : Int), .int kc (r : Int)]).run P w.w = .ok (.tuple #[.int .u64 ((p + 18446744073709551616 - q - r) % 18446744073709551616 : Nat), .int .u64 (if p < q + r then 1 else 0 : Nat)]) w.w := by
              have : r = 0 ∨ r = 1 := by omega
              rcases this with rfl | rfl <;> rfl
            rw [hrow] at hx
            simp [execOp, resolve, Act.eval, Deferred.ofValue, invoke, e, hx]
          · exact h.elim
        · rename_i hf
          split at h
          · rename_i vs rt hvs hrt
            refine cl_sound hA ?_ h
            have hargs := evvs_sound hA hvs
            have e : args.map a.eval = vs.toArray := by rw [← hargs, ← Array.toList_map]
            simp [execOp, resolve, Act.eval, Deferred.ofValue, invoke, e, callFunc_body (hE.body f hf)]
          · exact h.elim
        · exact h.elim
      case tmp t =>
        simp only [wop] at h
        split at h
        · rename_i fv vs rt hfv hvs hrt
          obtain ⟨f, first, captured, rfl, hok, hc⟩ := h
          refine cl_sound hA ?_ hc
          have hargs := evvs_sound hA hvs
          have hv := ev_sound hA hfv
          simp only [SVR] at hv
          have e : args.map a.eval = vs.toArray := by rw [← hargs, ← Array.toList_map]
          simp [execOp, resolve, hv, Deferred.ofValue, invoke, e, callFunc_body hok]
        · exact h.elim
      all_goals exact h.elim
    all_goals exact h.elim
  all_goals exact h.elim
end
end Go.Proofs.Ythhohfgpaihngaa.Zg
