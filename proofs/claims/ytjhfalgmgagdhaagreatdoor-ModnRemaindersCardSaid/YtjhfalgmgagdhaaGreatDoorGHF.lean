/- A part of the proofs of this seat's laws: words, lemmas or contracts of its functions. -/
import Derived.Test.YtjhfalgmgagdhaaGreatDoorGHE
import Derived.Test.YtjhfalgmgagdhaaGreatDoorGIA
import Derived.Test.YtjhfalgmgagdhaaGreatDoorGP4
set_option linter.unusedVariables false
set_option linter.unusedSimpArgs false
set_option linter.unnecessarySimpa false
section
namespace Go.Proofs.YtjhfalgmgagdhaaGreatDoor.Zg
open Go.RowKit
theorem len14 {bs : List Nat} (h : bs.length = 14) : ∃ mo hg g po nu ra ro dv rc c m d k e, bs = [mo, hg, g, po, nu, ra, ro, dv, rc, c, m, d, k, e] := by
 match bs, h with
 | [mo, hg, g, po, nu, ra, ro, dv, rc, c, m, d, k, e], _ => exact ⟨mo, hg, g, po, nu, ra, ro, dv, rc, c, m, d, k, e, rfl⟩
theorem modn_mk {w : TW} {t : HL I11} (hG : Gl w) {K : Option Addr → TW → Prop} (hK : ∀ p w' mo hg g po nu ra ro dv rc c m d k e b tab, Ext none_ w w' → Eg w' p [mo, hg, g, po, nu, ra, ro, dv, rc, c, m, d, k, e] b 0 tab → w.w.heap.size ≤ b → p.isNone = false → K p w') : cl Pg F.modn_New [.agg (encs I11 t).toArray] w [.one .ptr] K := by
 refine modn_NewN.mk hG (fun p w' bs b tab e hl hE hb hp => ?_) (by decide)
 obtain ⟨mo, hg, g, po, nu, ra, ro, dv, rc, c, m, d, k, e', rfl⟩ := len14 hl
 exact hK p w' _ _ _ _ _ _ _ _ _ _ _ _ _ _ b tab e hE hb hp
theorem law22_from {w : TW} {s : Sl} {l : List Nat} (hs : Rd w s l) (hn : l.length ≤ 1048576) : Ct Pg F.zigguratlaw22_from [s.v] w none_ [.one .slice] fun (s' : Sl) w' => Dn w' w.w.heap.size s' (vl W64 l) := by
 refine Ct.zigguratlaw22_from ?_
 unfold Sh.zigguratlaw22_from
 have := hs.len
 refine c1 (ref_From hs.here.nt (by omega)) ?_
 intro s' w' e h
 exact rt1 (c := .slice) _ e h.at
theorem law22_wakes {w : TW} (hG : Gl w) : Ct Pg F.zigguratlaw22_wakes [] w none_ [.one .bool] fun (r : Bool) _ => r = true := by
 refine Ct.zigguratlaw22_wakes ?_
 unfold Sh.zigguratlaw22_wakes
 refine modn_mk (t := ((0 : Int), (0 : Int), (0 : Int), (0 : Int), (0 : Int), (0 : Int), (0 : Int), (0 : Int), (0 : Int), (0 : Int), (0 : Int), ())) hG.here fun p w1 mo hg g po nu ra ro dv rc c m d k e t tab e1 hE ht hp => ?_
 refine cnd_f (by rw [hp]) ?_
 have l1 : ∀ x, x < W64 → sz x ≤ 64 := fun x hx => Nat.le_trans (sz_word hx) (by decide)
 refine nw_u64 (x := 2) rfl (by decide) fun b w2 h2 e2 => nw_u64 (x := 3) rfl (by decide) fun b1 w3 h3 e3 => nw_u64 (x := 3) rfl (by decide) fun b2 w4 h4 e4 => nw_u64 (x := 5) rfl (by decide) fun b3 w5 h5 e5 => ?_
 refine nw_rw fun b4 w6 h6 _ e6 => ?_
 have e16 := (((e2.trans e3).trans e4).trans e5).trans e6
 have hE6 := hE.ext e16
 have hl : Rp w6 ⟨some ⟨b4, 0, none⟩, 2, 2⟩ [(2, 3), (3, 5)] := by
  refine ⟨[(⟨some ⟨b, 0, none⟩, 1, 1⟩, ⟨some ⟨b1, 0, none⟩, 1, 1⟩), (⟨some ⟨b2, 0, none⟩, 1, 1⟩, ⟨some ⟨b3, 0, none⟩, 1, 1⟩)], ⟨rfl, Nat.le_refl _, (by decide : 2 ≤ maxLen), fun _ => ⟨b4, 0, rfl, h6.V, fun j v hj => ?_⟩⟩, rfl, fun i hi => ?_⟩
  ·rw [Nat.zero_add, h6.cell]; exact hj
  ·match i, hi with
   | 0, _ => exact ⟨(h2.ext (((e3.trans e4).trans e5).trans e6)).rd.nt, (h3.ext ((e4.trans e5).trans e6)).rd.nt⟩
   | 1, _ => exact ⟨(h4.ext (e5.trans e6)).rd.nt, (h5.ext e6).rd.nt⟩
 refine tM hE6.tz (modn_Crt (l := ⟨some ⟨b4, 0, none⟩, 2, 2⟩) (ps := [(2, 3), (3, 5)]) hE6 hl (fun i => ?_) (by decide) (by decide) (by decide)) ?_
 ·match i with
  | 0 => exact ⟨l1 2 (by decide), l1 3 (by decide)⟩
  | 1 => exact ⟨l1 3 (by decide), l1 5 (by decide)⟩
  | i + 2 => exact ⟨l1 0 (by decide), l1 0 (by decide)⟩
 rintro r r1 r2 w7 x7 ⟨-, -, hC, hE7⟩
 have hpos : ∀ q ∈ ([(2, 3), (3, 5)] : List N2t), 0 < q.2 := by decide
 have hcop : Cop (([(2, 3), (3, 5)] : List N2t).map (·.2)) := by simp [Cop]
 obtain ⟨rfl, R, hcr, hR, hM⟩ := hC hpos hcop
 have hR8 : R = 8 := hcr.uniq (ps' := [(2, 3), (3, 5)]) ⟨by decide, by decide⟩ hcop (fun _ => Iff.rfl) rfl
 subst hR8
 have hM15 : prodl (([(2, 3), (3, 5)] : List N2t).map (·.2)) = 15 := rfl
 rw [hM15] at hM
 intro w8 e8 w9 e9
 have e79 := e8.trans e9
 have hE9 := hE7.ext e79
 refine tM hE9.tz (modn_Signed hE9 (On.ext hR e79).nt (On.ext hM e79).nt (Nat.le_trans (l1 8 (by decide)) (by decide)) (Nat.le_trans (l1 15 (by decide)) (by decide)) (by decide) (by decide)) ?_
 rintro r3 r4 r5 w10 x10 ⟨-, hS, hE10⟩
 obtain ⟨rfl, hS⟩ := hS (by decide)
 rw [show sgd 8 15 = -7 by decide] at hS
 have hR := (On.ext hR e79).extT hE9.tz x10
 have hM := (On.ext hM e79).extT hE9.tz x10
 intro w11 e11 w12 e12
 have e1012 := (e11.trans e12).drew
 refine j1 (fun (b : Bool) w' => b = true ∧ Ext none_ w10 w') ?_ ?_
 ·refine cnd_t rfl (cnd_t rfl ?_)
  refine nw_u64 (x := 8) rfl (by decide) fun b5 w13 h13 e13 => ?_
  refine same_w (x := 8) (On.ext hR (e1012.trans e13)) (by decide) (by decide) h13 fun w14 e14 => cnd_t rfl ?_
  have e1014 := (e1012.trans e13).trans e14
  refine nw_u64 (x := 15) rfl (by decide) fun b6 w15 h15 e15 => ?_
  refine same_w (x := 15) (On.ext hM (e1014.trans e15)) (by decide) (by decide) h15 fun w16 e16' => cnd_t rfl ?_
  have e1016 := (e1014.trans e15).trans e16'
  refine cl0 (num_Of (n := -7) (by decide) (by decide)) ?_
  rintro r6 r7 w17 e17 h17
  exact same_i (hS.ext (e1016.trans e17)) h17 fun w18 e18 => ⟨rfl, (e1016.trans e17).trans e18⟩
 rintro b w19 ⟨rfl, e19⟩
 exact rt1 (c := .bool) true (e1.own ((((e16.any.trans x7).trans e79.any).trans x10).trans e19.any) fun c hc => by subst hc; exact ht) rfl
theorem wk22 {w : TW} (hG : Gl w) {K : Bool → TW → Prop} (hK : ∀ w', Ext none_ w w' → K true w') : cl Pg F.zigguratlaw22_wakes [] w [.one .bool] K := by
 refine c1 (law22_wakes hG) ?_
 rintro r w' e rfl
 exact hK w' e
end Go.Proofs.YtjhfalgmgagdhaaGreatDoor.Zg
end
