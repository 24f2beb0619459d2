/- A part of the proofs of this seat's laws: words, lemmas or contracts of its functions. -/
import Derived.Test.YticehedkalheiaaGreatDoorGA
import Derived.Test.YticehedkalheiaaGreatDoorGMA
import Derived.Test.YticehedkalheiaaGreatDoorGMB
import Derived.Test.YticehedkalheiaaGreatDoorGMD
import Derived.Test.YticehedkalheiaaGreatDoorGME
import Derived.Test.YticehedkalheiaaGreatDoorGKA
import Derived.Test.YticehedkalheiaaGreatDoorGKE
import Derived.Test.YticehedkalheiaaGreatDoorGIA
import Derived.Test.YticehedkalheiaaGreatDoorGKC
import Derived.Test.YticehedkalheiaaGreatDoorGB
import Derived.Test.YticehedkalheiaaGreatDoorGIB
import Derived.Test.YticehedkalheiaaGreatDoorGJA
import Derived.Test.YticehedkalheiaaGreatDoorGK
import Derived.Test.YticehedkalheiaaGreatDoorGQ
import Derived.Test.YticehedkalheiaaGreatDoorGMC
import Derived.Test.YticehedkalheiaaGreatDoorGP
import Derived.Test.YticehedkalheiaaGreatDoorGP1
import Derived.Test.YticehedkalheiaaGreatDoorGP2
import Derived.Test.YticehedkalheiaaGreatDoorGP3
import Derived.Test.YticehedkalheiaaGreatDoorGP4
import Derived.Test.YticehedkalheiaaGreatDoorGP5
import Derived.Test.YticehedkalheiaaGreatDoorGS
import Derived.Test.YticehedkalheiaaGreatDoorGC
set_option linter.unusedVariables false
set_option linter.unusedSimpArgs false
set_option linter.unnecessarySimpa false
section
namespace Go.Proofs.YticehedkalheiaaGreatDoor.Zg
open Go.RowKit
theorem dz_div {x y : Nat} : dz (x / y) ≤ dz x := dz_mono (Nat.div_le_self _ _)
section
variable {w : TW} {s : Sl} {ls : List (List Nat)}
end
end Go.Proofs.YticehedkalheiaaGreatDoor.Zg
end

section
namespace Go.Proofs.YticehedkalheiaaGreatDoor.Zg
open Go.RowKit
def NewN (n : Nat) (F : FuncId) : Prop := ∀ {t : HL I11} {w : TW}, Ct Pg F [.agg (encs I11 t).toArray] w none_ [.one .ptr] fun (p : Option Addr) w' => ∃ bs b tab, bs.length = n ∧ Chain w' p bs b ∧ w.w.heap.size ≤ b ∧ (∀ c ∈ bs, w.w.heap.size ≤ c ∧ c ≠ b) ∧ TabOk tab ∧ Tn w' b 0 0 0 tab
theorem new_stepN {n : Nat} {Fi : FuncId} (h : NewN n Fi) {t : HL I11} {w : TW} {ty : TypeId} : nwv w.here fun w1 => cl Pg Fi [.agg (encs I11 t).toArray] w1 [.one .ptr] fun (p : Option Addr) w2 => nwb w2 [.pointer p] ty fun b w3 => Rt none_ [.one .ptr] (fun (p : Option Addr) w' => ∃ bs b tab, bs.length = n + 1 ∧ Chain w' p bs b ∧ w.w.heap.size ≤ b ∧ (∀ c ∈ bs, w.w.heap.size ≤ c ∧ c ≠ b) ∧ TabOk tab ∧ Tn w' b 0 0 0 tab) w (.pointer (some ⟨b, 0, none⟩)) w3 := by
 intro w1 e1
 refine c1 (h (t := t)) ?_
 rintro p w2 e2 ⟨bs, b, tab, hlen, hen, hbt, hne, htab, htn⟩
 intro c w3 hn
 have hlt := htn.lt
 have hc : c = w2.w.heap.size := hn.at_
 have hle : w.w.heap.size ≤ w1.w.heap.size := e1.size
 have hle2 := e2.size
 refine rt1 (c := .ptr) (some ⟨c, 0, none⟩) ((e1.trans e2).trans (hn.ext _)) ⟨c :: bs, b, tab, by simp [hlen], ?_, by omega, ?_, htab, (htn.ext (hn.ext _)).at⟩
 ·refine ⟨rfl, fun hV => ?_, p, ?_, (hen.ext (hn.ext _)).at⟩
  ·have hV : w3.V c := hV
   rw [hn.V] at hV
   have := w2.lt _ hV
   omega
  ·show w3.w.cell? _ = _
   rw [cell_of_row w3.w c 0 _ ty (0, 0) hn.heap]
   rfl
 ·intro x hx
  rcases List.mem_cons.1 hx with rfl | hx
  ·exact ⟨by omega, by omega⟩
  ·have := hne x hx
   exact ⟨by omega, this.2⟩
theorem toom_NewN : NewN 3 F.toom_New := fun {t w} => Calls.mono (toom_New (t := t) (w := w)) fun e w' h => by
 obtain ⟨x, T', h1, h2, h3, d, k, e, b, tab, k1, k2, k3, k4, k5⟩ := h
 exact ⟨x, T', h1, h2, h3, [d, k, e], b, tab, rfl, k1, k2, k3, k4, k5⟩
theorem mul_NewN : NewN 4 F.mul_New := fun {t w} => Ct.mul_New (new_stepN toom_NewN)
theorem divs_NewN : NewN 5 F.divs_New := fun {t w} => Ct.divs_New (new_stepN mul_NewN)
theorem recip_NewN : NewN 6 F.recip_New := fun {t w} => Ct.recip_New (new_stepN divs_NewN)
theorem div_NewN : NewN 7 F.div_New := fun {t w} => Ct.div_New (new_stepN recip_NewN)
theorem root_NewN : NewN 8 F.root_New := fun {t w} => Ct.root_New (new_stepN div_NewN)
theorem radix_NewN : NewN 9 F.radix_New := fun {t w} => Ct.radix_New (new_stepN root_NewN)
theorem num_NewN : NewN 10 F.num_New := fun {t w} => Ct.num_New (new_stepN radix_NewN)
theorem power_NewN : NewN 11 F.power_New := fun {t w} => Ct.power_New (new_stepN num_NewN)
theorem gcd_NewN : NewN 12 F.gcd_New := fun {t w} => Ct.gcd_New (new_stepN power_NewN)
theorem hgcd_NewN : NewN 13 F.hgcd_New := fun {t w} => Ct.hgcd_New (new_stepN gcd_NewN)
theorem modn_NewN : NewN 14 F.modn_New := fun {t w} => Ct.modn_New (new_stepN hgcd_NewN)
theorem NewN.mk {n : Nat} {F : FuncId} (h : NewN n F) {w : TW} {t : HL I11} (hG : Gl w) {K : Option Addr → TW → Prop} (hK : ∀ p w' bs b tab, Ext none_ w w' → bs.length = n → Eg w' p bs b 0 tab → w.w.heap.size ≤ b → p.isNone = false → K p w') (hn : 0 < n) : cl Pg F [.agg (encs I11 t).toArray] w [.one .ptr] K := by
 refine c1 (h (t := t)) ?_
 rintro p w' e ⟨bs, b, tab, hl, hc, hb, hne, htab, htn⟩
 refine hK p w' bs b tab e hl ⟨hc, fun c hc => (hne c hc).2, htab, hG.ext e, 0, 0, htn⟩ hb ?_
 cases bs with
 | nil => simp at hl; omega
 | cons x xs => rw [hc.1]; rfl
theorem dg_w {x : Nat} (h0 : 0 < x) (hx : x < W64) : dg W64 x = [x] := by
 rw [dg_pos W2 h0, Nat.mod_eq_of_lt hx, Nat.div_eq_of_lt hx, dg_zero]
theorem nw2 {w : TW} {s u : Sl} {x y : Nat} {e : TypeId} (hs : Nt w s x) (hu : Nt w u y) {K : Nat → TW → Prop} (hK : ∀ b w', Rs w' ⟨some ⟨b, 0, none⟩, 2, 2⟩ [x, y] → Ext none_ w w' → K b w') : nwb w [s.v, u.v] e K :=
 nw_rs (ss := [s, u]) (xs := [x, y]) 2 rfl rfl (by decide) (fun i t ht => by
  match i, ht with
  | 0, ht => simp at ht; subst ht; exact hs
  | 1, ht => simp at ht; subst ht; exact hu) hK
theorem same_w {w : TW} {s : Sl} {B b x : Nat} (hs : On w B s x) (h0 : 0 < x) (hx : x < W64) {C : Nat} (hb : Ow w C ⟨some ⟨b, 0, none⟩, 1, 1⟩ [x]) {K : Bool → TW → Prop} (hK : ∀ w', Ext none_ w w' → K true w') : cl Pg F.zigguratkeep_Same [s.v, .slice (some ⟨b, 0, none⟩) 1 1] w [.one .bool] K := by
 rw [On, dg_w h0 hx] at hs
 refine c1 (keep_Same (s := s) (t := ⟨some ⟨b, 0, none⟩, 1, 1⟩) hs.rd hb.rd) ?_
 rintro r w' e rfl
 exact hK w' e
theorem getD2 {x y B : Nat} (hx : sz x ≤ B) (hy : sz y ≤ B) (i : Nat) : sz (([x, y] : List Nat).getD i 0) ≤ B := by
 match i with
 | 0 => exact hx
 | 1 => exact hy
 | i + 2 => simp [sz, dg_zero]
end Go.Proofs.YticehedkalheiaaGreatDoor.Zg
end
