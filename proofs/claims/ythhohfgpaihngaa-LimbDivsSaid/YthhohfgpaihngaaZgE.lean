/- A part of the proofs of this seat's laws: words, lemmas or contracts of its functions. -/
import Derived.Test.YthhohfgpaihngaaZgD
set_option linter.unusedVariables false
set_option linter.unusedSimpArgs false
set_option linter.unnecessarySimpa false
namespace Go.Proofs.Ythhohfgpaihngaa.Zg
open Go.RowKit

section
variable {P : Program} {D : Dc}

theorem pop_sound {β : Nat → Option Nat} {e : Env} {a : Act} {w : TW} (hA : Agree D β e a w) {o : Oper} {K : SV → Prop} (h : pop P D o e K) : ∃ s v, K s ∧ SVR β s v ∧ Yld P a o v := by
  obtain ⟨dst, op, type, pos, after, guard⟩ := o
  cases op
  case move x =>
    simp only [pop] at h
    split at h
    · rename_i s hs; exact ⟨s, _, h, ev_sound hA hs, fun w => by simp [execOp]⟩
    · exact h.elim
  case assign x =>
    simp only [pop] at h
    split at h
    · rename_i s hs; exact ⟨s, _, h, ev_sound hA hs, fun w => by simp [execOp]⟩
    · exact h.elim
  case pick c x y =>
    simp only [pop] at h
    split at h
    · rename_i b hb
      have hc := evv_sound hA hb
      cases b with
      | true =>
        simp only [cond_true] at h
        split at h
        · rename_i s hs; exact ⟨s, _, h, ev_sound hA hs, fun w => by simp [execOp, hc, asBool]⟩
        · exact h.elim
      | false =>
        simp only [cond_false] at h
        split at h
        · rename_i s hs; exact ⟨s, _, h, ev_sound hA hs, fun w => by simp [execOp, hc, asBool]⟩
        · exact h.elim
    · exact h.elim
  case nilCheck x =>
    simp only [pop] at h
    split at h
    · rename_i p hp
      have hv := ev_sound hA hp
      simp only [SVR] at hv
      cases p with
      | none => exact h.elim
      | some q => exact ⟨_, _, h, rfl, fun w => by simp [execOp, hv]⟩
    · rename_i k off hp
      have hv := ev_sound hA hp
      obtain ⟨b, hb, hv⟩ := hv
      exact ⟨_, _, h, ⟨b, hb, hv⟩, fun w => by simp [execOp, hv]⟩
    · exact h.elim
  case binOp op xt x y yt =>
    simp only [pop] at h
    split at h
    · rename_i u v hu hv
      obtain ⟨r, hK, hr⟩ := bop_sound h x y
      refine ⟨_, _, hK, rfl, fun w => ?_⟩
      have := hr w
      simp only [execOp, evv_sound hA hu, evv_sound hA hv, Sem.run_bind] at this ⊢
      rw [this]
      simp
    · exact h.elim
  case unOp op xt x =>
    simp only [pop] at h
    split at h
    · rename_i u hu
      obtain ⟨r, hK, hr⟩ := uop_sound (P := P) h
      exact ⟨_, _, hK, rfl, fun w => by simp [execOp, evv_sound hA hu, hr w]⟩
    · exact h.elim
  case convert src dst' x =>
    simp only [pop] at h
    split at h
    · rename_i d k k' n hd hk hx
      exact ⟨_, _, h, rfl, fun w => by simp [execOp, evv_sound hA hx, convert, run_underlying hd, run_underlying hk, Conv.intToInt]⟩
    · exact h.elim
  case fieldAddr st x f =>
    simp only [pop] at h
    split at h
    · rename_i fs hfs
      split at h
      · rename_i fd hfd
        split at h
        · rename_i n hn
          split at h
          · rename_i ad had
            have hv := ev_sound hA had
            simp only [SVR] at hv
            refine ⟨_, _, h, rfl, fun w => ?_⟩
            simp [execOp, hv, Instr.fieldAt, run_underlying hfs, hfd, Instr.sureAddr, fieldPlace, sizeT_run hn]
          · rename_i k off had
            obtain ⟨b, hb, hv⟩ := ev_sound hA had
            refine ⟨_, _, h, ⟨b, hb, rfl⟩, fun w => ?_⟩
            simp only [execOp, hv, Instr.fieldAt, run_underlying hfs, hfd, Instr.sureAddr, fieldPlace, sizeT_run hn, Sem.run_bind, Sem.run_pure, Result.andThen_ok, Addr.add]
            by_cases h0 : fd.offset = 0 <;> simp [h0]
          · exact h.elim
        · exact h.elim
      · exact h.elim
    · exact h.elim
  case indexAddr t x i =>
    simp only [pop] at h
    split at h
    · rename_i el k n ht hn
      split at h
      · rename_i sz p l c hsz hx
        obtain ⟨b, hp, h1, h2, hK⟩ := h
        simp only at hp h2
        subst hp
        exact ⟨_, _, hK, rfl, fun w => by simp [execOp, evv_sound hA hx, evv_sound hA hn, Instr.indexAt, asIntOf, run_underlying ht, h1, h2, sizeT_run hsz]⟩
      · exact h.elim
    · rename_i len el k n ht hn
      split at h
      · rename_i sz ad hsz hx
        have hv := ev_sound hA hx
        simp only [SVR] at hv
        obtain ⟨h1, h2, hK⟩ := h
        exact ⟨_, _, hK, rfl, fun w => by simp [execOp, hv, evv_sound hA hn, Instr.indexAt, asIntOf, run_underlying ht, Instr.sureAddr, h1, h2, sizeT_run hsz]⟩
      · rename_i sz k' off hsz hx
        obtain ⟨b, hb, hv⟩ := ev_sound hA hx
        split at h
        · rename_i m
          split at h
          · rename_i hm
            have hm' : m < len := by simpa [Nat.blt_eq] using hm
            refine ⟨_, _, h, ⟨b, hb, rfl⟩, fun w => ?_⟩
            have h1 : (Int.ofNat m) < (len : Int) := by simpa using hm'
            simp only [execOp, hv, evv_sound hA hn, Instr.indexAt, asIntOf, run_underlying ht, Instr.sureAddr, Sem.run_bind, Sem.run_pure, Result.andThen_ok]
            rw [if_pos ⟨by simp, h1⟩]
            simp only [sizeT_run hsz, Sem.run_bind, Sem.run_pure, Result.andThen_ok, Addr.add]
            by_cases h0 : m * sz = 0
            · simp
              try (rcases Nat.mul_eq_zero.1 h0 with h0 | h0 <;> simp [h0])
            · have h0' : ¬ (Int.ofNat m).toNat * sz = 0 := h0
              rw [if_neg h0']
              simp
          · exact h.elim
        · exact h.elim
      · exact h.elim
    · exact h.elim
  case field t x f =>
    simp only [pop] at h
    split at h
    · rename_i fs cs ht hx
      split at h
      · rename_i fd hfd
        split at h
        · rename_i v hv
          exact ⟨_, _, h, rfl, fun w => by simp [execOp, evv_sound hA hx, Instr.field, run_underlying ht, hfd, asAgg, prt_run hv]⟩
        · exact h.elim
      · exact h.elim
    · exact h.elim
  case index t x i =>
    simp only [pop] at h
    split at h
    · rename_i len el cs k m ht hx hi
      split at h
      · rename_i sz hsz
        split at h
        · rename_i hm
          have hm' : m < len := by simpa [Nat.blt_eq] using hm
          split at h
          · rename_i v hv
            have h1 : (Int.ofNat m) < (len : Int) := by simpa using hm'
            refine ⟨_, _, h, rfl, fun w => ?_⟩
            simp only [execOp, evv_sound hA hx, evv_sound hA hi, Instr.index, asIntOf, run_underlying ht, Sem.run_bind, Sem.run_pure, Result.andThen_ok]
            rw [if_pos ⟨by simp, h1⟩]
            simp [sizeT_run hsz, prt_run hv]
          · exact h.elim
        · exact h.elim
      · exact h.elim
    · rename_i s k n ht hx hi
      obtain ⟨⟨h1, h2⟩, hK⟩ := h
      refine ⟨_, _, hK, rfl, fun w => ?_⟩
      simp [execOp, evv_sound hA hx, evv_sound hA hi, Instr.index, asIntOf, run_underlying ht, h1, h2]
    · exact h.elim
  case extract t i =>
    simp only [pop] at h
    split at h
    · rename_i vs hx
      split at h
      · rename_i v hv
        have hv' : vs[i]? = some v := by simpa using hv
        exact ⟨_, _, h, rfl, fun w => by simp [execOp, evv_sound hA hx, Instr.extract, hv']⟩
      · exact h.elim
    · exact h.elim
  case slice t x lo hi mx =>
    simp only [pop] at h
    split at h
    · rename_i el p l c ht hx
      split at h
      · rename_i sz hsz
        have hxv := evv_sound hA hx
        have key : ∀ {L H : Int} {lv hv : Option Value}, ((lv = none ∧ L = 0) ∨ ∃ k, lv = some (.int k L)) → ((hv = none ∧ H = l) ∨ ∃ k, hv = some (.int k H)) → lo.map a.eval = lv → hi.map a.eval = hv →
            slc ⟨p, l, c⟩ L H sz (fun s => K (.v s.v)) → ∃ s v, K s ∧ SVR β s v ∧ Yld P a { dst, op := .slice t x lo hi none, type, pos, after, guard } v := by
          intro L H lv hv h1 h2 h3 h4 ⟨h5, h6, h7, hK⟩
          refine ⟨_, _, hK, rfl, fun w => ?_⟩
          simp [execOp, hxv, h3, h4, cut_run (s := ⟨p, l, c⟩) ht hsz h1 h2 h5 h6 h7 w]
        split at h
        · exact key (.inl ⟨rfl, rfl⟩) (.inl ⟨rfl, rfl⟩) rfl rfl h
        · split at h
          · rename_i hv; exact key (.inr ⟨_, congrArg some (evv_sound hA hv)⟩) (.inl ⟨rfl, rfl⟩) rfl rfl h
          · exact h.elim
        · split at h
          · rename_i hv; exact key (.inl ⟨rfl, rfl⟩) (.inr ⟨_, congrArg some (evv_sound hA hv)⟩) rfl rfl h
          · exact h.elim
        · split at h
          · rename_i hv hv'; exact key (.inr ⟨_, congrArg some (evv_sound hA hv)⟩) (.inr ⟨_, congrArg some (evv_sound hA hv')⟩) rfl rfl h
          · exact h.elim
      · exact h.elim
    · exact h.elim
  case makeFunc fn first captured =>
    simp only [pop] at h
    split at h
    · rename_i x y hx hy
      have h1 : first.map a.eval = x.toArray := by rw [← evvs_sound hA hx, ← Array.toList_map]
      have h2 : captured.map a.eval = y.toArray := by rw [← evvs_sound hA hy, ← Array.toList_map]
      exact ⟨_, _, h, rfl, fun w => by simp [execOp, Instr.makeFunc, h1, h2]⟩
    · exact h.elim
  case build t parts =>
    simp only [pop] at h
    split at h
    · rename_i ps hps
      split at h
      · rename_i cs hcs
        have h1 : parts.map (fun x => (x.1, a.eval x.2)) = ps.toArray := by rw [← evParts_sound hA hps, ← Array.toList_map]
        exact ⟨_, _, h, rfl, fun w => by simp [execOp, h1, bld_sound hcs w]⟩
      · exact h.elim
    · exact h.elim
  case call c =>
    obtain ⟨callee, args, argTypes⟩ := c
    cases callee
    case builtin b =>
      simp only [pop] at h
      split at h
      · rename_i x t hargs htys
        obtain rfl : args = #[x] := by simpa using congrArg List.toArray hargs
        obtain rfl : argTypes = #[t] := by simpa using congrArg List.toArray htys
        split at h
        · rename_i el p n c ht hx
          exact ⟨_, _, h, rfl, fun w => by simp [execOp, resolve, invoke, builtin, Builtin.len_, evv_sound hA hx, run_underlying ht, goInt]⟩
        · rename_i s ht hx
          exact ⟨_, _, h, rfl, fun w => by simp [execOp, resolve, invoke, builtin, Builtin.len_, evv_sound hA hx, run_underlying ht, goInt]⟩
        · rename_i n el v ht hx
          exact ⟨_, _, h, rfl, fun w => by simp [execOp, resolve, invoke, builtin, Builtin.len_, evv_sound hA hx, run_underlying ht, goInt]⟩
        · exact h.elim
      · rename_i x t hargs htys
        obtain rfl : args = #[x] := by simpa using congrArg List.toArray hargs
        obtain rfl : argTypes = #[t] := by simpa using congrArg List.toArray htys
        split at h
        · rename_i el p n c ht hx
          exact ⟨_, _, h, rfl, fun w => by simp [execOp, resolve, invoke, builtin, Builtin.cap_, evv_sound hA hx, run_underlying ht, goInt]⟩
        · exact h.elim
      · rename_i x xs hargs
        obtain rfl : args = (x :: xs).toArray := by simpa using congrArg List.toArray hargs
        split at h
        · rename_i v vs hv hvs
          split at h
          · rename_i r hr
            have := mm_sound (P := P) hr
            refine ⟨_, _, h, rfl, fun w => ?_⟩
            have h2 := this w
            simp only [if_true] at h2
            simp [execOp, resolve, invoke, builtin, Builtin.max_, evv_sound hA hv, evvs_sound hA hvs, h2]
          · exact h.elim
        · exact h.elim
      · rename_i x xs hargs
        obtain rfl : args = (x :: xs).toArray := by simpa using congrArg List.toArray hargs
        split at h
        · rename_i v vs hv hvs
          split at h
          · rename_i r hr
            have := mm_sound (P := P) hr
            refine ⟨_, _, h, rfl, fun w => ?_⟩
            have h2 := this w
            simp only [Bool.false_eq_true, if_false] at h2
            simp [execOp, resolve, invoke, builtin, Builtin.min_, evv_sound hA hv, evvs_sound hA hvs, h2]
          · exact h.elim
        · exact h.elim
      · exact h.elim
    all_goals exact h.elim
  all_goals exact h.elim
end
end Go.Proofs.Ythhohfgpaihngaa.Zg
