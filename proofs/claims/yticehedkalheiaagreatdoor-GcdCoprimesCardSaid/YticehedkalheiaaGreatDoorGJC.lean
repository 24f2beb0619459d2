/- A part of the proofs of this seat's laws: words, lemmas or contracts of its functions. -/
import Derived.Test.YticehedkalheiaaGreatDoorGJB
import Derived.Test.YticehedkalheiaaGreatDoorGQ
set_option linter.unusedVariables false
set_option linter.unusedSimpArgs false
set_option linter.unnecessarySimpa false
section
namespace Go.Proofs.YticehedkalheiaaGreatDoor.Zg
open Go.RowKit
theorem few_sz {w : TW} {s : Sl} {ls : List (List Nat)} (h : Rl w s ls) (hf : Few ls) (i : Nat) : sz ((ls.map (vl W64)).getD i 0) ≤ 128 := by
  rw [mvl_getD]
  by_cases hi : i < ls.length
  · obtain ⟨ss, h1, h2, h3⟩ := h
    have h4 := h3 i _ (List.getElem?_eq_getElem (show i < ss.length by omega))
    exact Nat.le_trans (sz_vl h4.sm) (hf.k i)
  · rw [List.getD_eq_getElem?_getD, List.getElem?_eq_none (by omega)]
    simp [vl, sz, dg_zero]
theorem few_cuts (ls : List (List Nat)) {k n : Nat} (hk : k ≤ 16) (hn : n ≤ 128) : Few ((ls.take k).map (List.take n)) := by
  refine ⟨by simp; omega, fun i => ?_⟩
  simp only [List.getD_eq_getElem?_getD, List.getElem?_map]
  cases (ls.take k)[i]? with
  | none => simp
  | some l => simp; omega
theorem law20_GcdCoprimes {w : TW} {t : HL I11} {s : Sl} (hG : Gl w) (hl : ArgL w s) : Ct Pg F.zigguratlaw20_GcdCoprimes [.agg (encs I11 t).toArray, s.v] w none_ [.one .bool] fun (r : Bool) _ => r = true := by
  obtain ⟨ls, hl⟩ := hl
  refine Ct.zigguratlaw20_GcdCoprimes ?_
  unfold Sh.zigguratlaw20_GcdCoprimes
  intro w1 e1
  refine c1 (keep_Cuts (n := 3) (k := 6) (hl.here.ext e1) (by decide)) fun s1 w2 e2 h1 => ?_
  have hf := few_cuts ls (k := 6) (n := 3) (by decide) (by decide)
  generalize (ls.take 6).map (List.take 3) = ms at *
  refine gcd_mk (t := t) ((hG.here.ext e1).ext e2) fun p w3 g po nu ra ro dv rc c m d k e t tab e3 hE ht hp => ?_
  have e13 := (e1.trans e2).trans e3
  have z : w.w.heap.size ≤ t := Nat.le_trans (e1.trans e2).size ht
  have hz := hE.tz
  have n16 := hf.n
  refine j1 (fun (b : Bool) w' => b = true ∧ Ext none_ w.here w') ?_ ?_
  · refine cnd_t (by rw [hp]; rfl) ?_
    have h3 := h1.ext e3
    refine c1 (keep_Nats h3 (by omega)) fun s2 w4 e4 h4 => ?_
    have hE4 := hE.ext e4
    refine t1 hE4.tz (gcd_Coprime hE4 h4.rs (fun i => Nat.le_trans (few_sz h4 hf i) (by decide)) (by simp; omega) (by decide) (by decide)) ?_
    rintro ok w5 x5 ⟨hok, hE5⟩
    have h5 := (h3.ext e4).extT hE4.tz x5
    refine c1 (keep_Nats h5 (by omega)) fun s3 w6 e6 h6 => ?_
    refine c1 (r17_Coprime h6 hf) ?_
    rintro ok1 w7 e7 hok1
    have : ok = ok1 := by rw [Bool.eq_iff_iff, hok, hok1]
    subst this
    refine cnd_t (by simp) ?_
    have hE7 := (hE5.ext e6).ext e7
    refine wk20 hE7.gl fun w8 e8 => ⟨rfl, ?_⟩
    have x : Xt1 t w3 w8 := (e4.any.trans x5).trans ((e6.trans e7).trans e8).any
    exact e13.own x fun c hc => by subst hc; exact z
  rintro b w' ⟨rfl, e⟩
  exact rt1 (c := .bool) _ e rfl
end Go.Proofs.YticehedkalheiaaGreatDoor.Zg
end
