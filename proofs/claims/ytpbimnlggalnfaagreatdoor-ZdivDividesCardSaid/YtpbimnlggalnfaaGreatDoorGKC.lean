/- A part of the proofs of this seat's laws. -/
import Derived.Test.YtpbimnlggalnfaaGreatDoorGKA
set_option linter.unusedVariables false
set_option linter.unusedSimpArgs false
set_option linter.unnecessarySimpa false
namespace Go.Proofs.YtpbimnlggalnfaaGreatDoor.Zg
open Go.RowKit
section
variable {w:TW} {s:Sl} {x:Nat}
theorem toom_New{t:HL I11}:Ct Pg F.jS [.agg (aM I11 t).toArray] w aa [.one .ptr] λ(p:Option Addr) w'=>∃d k e b tab,bT w' p [d,k,e] b∧w.w.heap.size≤b∧(∀c∈[d,k,e],w.w.heap.size≤c∧c≠b)∧mA tab∧Tn w' b 0 0 0 tab:=by
 refine Ct.jS ?_;unfold Sh.jS;intro w1 e1;refine c1 (kara_New (t:=t)) ?_;rintro p w2 e2 ⟨k,e,b,tab,hen,hbt,hne,htab,htn⟩;intro c w3 hn;have hlt:=htn.lt;have hc:c=w2.w.heap.size:=hn.at_;have hle:w.w.heap.size≤w1.w.heap.size:=e1.size;have hle2:=e2.size;refine rt1 (c:=.ptr) (some ⟨c,0,none⟩) ((e1.trans e2).trans (hn.ext _)) ⟨c,k,e,b,tab,?_,om,?_,htab,(htn.ext (hn.ext _)).at⟩
 ·refine⟨rfl,λhV=>?_,p,?_,(hen.ext (hn.ext _)).at⟩
  ·have hV:w3.V c:=hV;rw [hn.V] at hV;have:=w2.lt _ hV;omega
  ·show w3.w.cell? _=_;rw [cell_of_row w3.w c 0 _ T.qT (0,0) hn.heap];rfl
 ·intro x hx;rcases List.mem_cons.1 hx with rfl|hx
  ·exact⟨om,om⟩
  ·have:=hne x hx;exact⟨om,this.2⟩
theorem Dr.zero(h:Dr w s x):(s.n=0↔x=0):=by
 rw [h.len];exact kB dcd
theorem uV(h:Dr w s x):Ct Pg F.ci [s.v] w aa [.one .bool] λ(r:Bool) _=>r=decide (x=0):=by
 refine Ct.ci ?_;unfold Sh.ci;refine rt1 (c:=.bool) _ (Ext.refl _ _) ?_;have:=h.zero;by_cases hx:x=0
 ·rw [this.2 hx];simp [hx]
 ·have:s.n≠0:=λh=>hx (this.1 h)
  simp [hx];omega
end
end Go.Proofs.YtpbimnlggalnfaaGreatDoor.Zg
