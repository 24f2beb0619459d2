/- A part of the proofs of this seat's laws. -/
import Derived.Test.YtpbimnlggalnfaaGreatDoorGIB
import Derived.Test.YtpbimnlggalnfaaGreatDoorGQ
import Derived.Test.YtpbimnlggalnfaaGreatDoorGA
import Derived.Test.YtpbimnlggalnfaaGreatDoorGMA
import Derived.Test.YtpbimnlggalnfaaGreatDoorGMB
import Derived.Test.YtpbimnlggalnfaaGreatDoorGMD
import Derived.Test.YtpbimnlggalnfaaGreatDoorGME
import Derived.Test.YtpbimnlggalnfaaGreatDoorGKA
import Derived.Test.YtpbimnlggalnfaaGreatDoorGKE
import Derived.Test.YtpbimnlggalnfaaGreatDoorGIA
import Derived.Test.YtpbimnlggalnfaaGreatDoorGKC
import Derived.Test.YtpbimnlggalnfaaGreatDoorGB
import Derived.Test.YtpbimnlggalnfaaGreatDoorGJA
import Derived.Test.YtpbimnlggalnfaaGreatDoorGK
import Derived.Test.YtpbimnlggalnfaaGreatDoorGMC
import Derived.Test.YtpbimnlggalnfaaGreatDoorGP
import Derived.Test.YtpbimnlggalnfaaGreatDoorGP1
import Derived.Test.YtpbimnlggalnfaaGreatDoorGP2
import Derived.Test.YtpbimnlggalnfaaGreatDoorGP3
import Derived.Test.YtpbimnlggalnfaaGreatDoorGP4
import Derived.Test.YtpbimnlggalnfaaGreatDoorGP5
import Derived.Test.YtpbimnlggalnfaaGreatDoorGS
import Derived.Test.YtpbimnlggalnfaaGreatDoorGC
set_option linter.unusedVariables false
set_option linter.unusedSimpArgs false
set_option linter.unnecessarySimpa false
namespace Go.Proofs.YtpbimnlggalnfaaGreatDoor.Zg
open Go.RowKit
section
variable {n x y:Nat} {t:HL I11} {w:TW}
def kH(n:Nat)(F:FuncId):Prop:=∀{t:HL I11} {w:TW},Ct Pg F [.agg (aM I11 t).toArray] w aa [.one .ptr] λ(p:Option Addr) w'=>∃bs b tab,bs.length=n∧bT w' p bs b∧w.w.heap.size≤b∧(∀c∈bs,w.w.heap.size≤c∧c≠b)∧mA tab∧Tn w' b 0 0 0 tab
theorem eZ{Fi:FuncId}(h:kH n Fi){ty:TypeId}:nwv w.here λw1=>cl Pg Fi [.agg (aM I11 t).toArray] w1 [.one .ptr] λ(p:Option Addr) w2=>nwb w2 [.pointer p] ty λb w3=>Rt aa [.one .ptr] (λ(p:Option Addr) w'=>∃bs b tab,bs.length=n+1∧bT w' p bs b∧w.w.heap.size≤b∧(∀c∈bs,w.w.heap.size≤c∧c≠b)∧mA tab∧Tn w' b 0 0 0 tab) w (.pointer (some ⟨b,0,none⟩)) w3:=by
 intro w1 e1;refine c1 (h (t:=t)) ?_;rintro p w2 e2 ⟨bs,b,tab,hlen,hen,hbt,hne,htab,htn⟩;intro c w3 hn;have hlt:=htn.lt;have hc:c=w2.w.heap.size:=hn.at_;have hle:w.w.heap.size≤w1.w.heap.size:=e1.size;have hle2:=e2.size;refine rt1 (c:=.ptr) (some ⟨c,0,none⟩) ((e1.trans e2).trans (hn.ext _)) ⟨c::bs,b,tab,by simp [hlen],?_,om,?_,htab,(htn.ext (hn.ext _)).at⟩
 ·refine⟨rfl,λhV=>?_,p,?_,(hen.ext (hn.ext _)).at⟩
  ·have hV:w3.V c:=hV;rw [hn.V] at hV;have:=w2.lt _ hV;omega
  ·show w3.w.cell? _=_;rw [cell_of_row w3.w c 0 _ ty (0,0) hn.heap];rfl
 ·intro x hx;rcases List.mem_cons.1 hx with rfl|hx
  ·exact⟨om,om⟩
  ·have:=hne x hx;exact⟨om,this.2⟩
theorem yT:kH 3 F.jS:=fun {t w}=>Calls.mono (toom_New (t:=t) (w:=w)) λe w' h=>by
 obtain⟨x,T',h1,h2,h3,d,k,e,b,tab,k1,k2,k3,k4,k5⟩:=h;exact⟨x,T',h1,h2,h3,[d,k,e],b,tab,rfl,k1,k2,k3,k4,k5⟩
theorem aa0:kH 4 F.mq:=fun {t w}=>Ct.mq (eZ yT)
theorem aal:kH 5 F.kW:=fun {t w}=>Ct.kW (eZ aa0)
theorem xY:kH 6 F.kh:=fun {t w}=>Ct.kh (eZ aal)
theorem abr:kH 7 F.mu:=fun {t w}=>Ct.mu (eZ xY)
theorem zl:kH 8 F.kU:=fun {t w}=>Ct.kU (eZ abr)
theorem xZ:kH 9 F.ki:=fun {t w}=>Ct.ki (eZ zl)
theorem aaX:kH 10 F.ml:=fun {t w}=>Ct.ml (eZ xZ)
theorem ya:kH 11 F.kj:=fun {t w}=>Ct.kj (eZ aaX)
theorem abk:kH 12 F.mr:=fun {t w}=>Ct.mr (eZ ya)
theorem zZ:kH 13 F.kV:=fun {t w}=>Ct.kV (eZ abk)
theorem tW:kH 14 F.ko:=fun {t w}=>Ct.ko (eZ zZ)
theorem kH.mk{F:FuncId}(h:kH n F)(hG:Gl w){K:Option Addr→TW→Prop}(hK:∀p w' bs b tab,Ext aa w w'→bs.length=n→Eg w' p bs b 0 tab→w.w.heap.size≤b→p.isNone=false→K p w')(hn:0<n):cl Pg F [.agg (aM I11 t).toArray] w [.one .ptr] K:=by
 refine c1 (h (t:=t)) ?_;rintro p w' e ⟨bs,b,tab,hl,hc,hb,hne,htab,htn⟩;refine hK p w' bs b tab e hl ⟨hc,λc hc=>(hne c hc).2,htab,hG.ext e,0,0,htn⟩ hb ?_;cases bs with
 | nil=>simp at hl;omega
 | cons x xs=>rw [hc.1];rfl
theorem nw2{s u:Sl}{e:TypeId}(hs:Nt w s x)(hu:Nt w u y){K:Nat→TW→Prop}(hK:∀b w',Rs w' ⟨some ⟨b,0,none⟩,2,2⟩ [x,y]→Ext aa w w'→K b w'):nwb w [s.v,u.v] e K:=
 qw (ss:=[s,u]) (xs:=[x,y]) 2 rfl rfl dcd (λi t ht=>by
  match i,ht with
  | 0,ht=>simp at ht;subst ht;exact hs
  | 1,ht=>simp at ht;subst ht;exact hu) hK
theorem ym{B:Nat}(hx:sz x≤B)(hy:sz y≤B)(i:Nat):sz (([x,y]:List Nat).getD i 0)≤B:=by
 match i with
 | 0=>exact hx
 | 1=>exact hy
 | i+2=>simp [sz,az]
end
end Go.Proofs.YtpbimnlggalnfaaGreatDoor.Zg
