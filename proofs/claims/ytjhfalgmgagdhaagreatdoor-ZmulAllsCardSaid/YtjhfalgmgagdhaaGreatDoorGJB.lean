/- A part of the proofs of this seat's laws: words, lemmas or contracts of its functions. -/
import Derived.Test.YtjhfalgmgagdhaaGreatDoorGIB
import Derived.Test.YtjhfalgmgagdhaaGreatDoorGQ
import Derived.Test.YtjhfalgmgagdhaaGreatDoorGA
import Derived.Test.YtjhfalgmgagdhaaGreatDoorGMA
import Derived.Test.YtjhfalgmgagdhaaGreatDoorGMB
import Derived.Test.YtjhfalgmgagdhaaGreatDoorGMD
import Derived.Test.YtjhfalgmgagdhaaGreatDoorGME
import Derived.Test.YtjhfalgmgagdhaaGreatDoorGKA
import Derived.Test.YtjhfalgmgagdhaaGreatDoorGKE
import Derived.Test.YtjhfalgmgagdhaaGreatDoorGIA
import Derived.Test.YtjhfalgmgagdhaaGreatDoorGKC
import Derived.Test.YtjhfalgmgagdhaaGreatDoorGB
import Derived.Test.YtjhfalgmgagdhaaGreatDoorGJA
import Derived.Test.YtjhfalgmgagdhaaGreatDoorGK
import Derived.Test.YtjhfalgmgagdhaaGreatDoorGMC
import Derived.Test.YtjhfalgmgagdhaaGreatDoorGP
import Derived.Test.YtjhfalgmgagdhaaGreatDoorGP1
import Derived.Test.YtjhfalgmgagdhaaGreatDoorGP2
import Derived.Test.YtjhfalgmgagdhaaGreatDoorGP3
import Derived.Test.YtjhfalgmgagdhaaGreatDoorGP4
import Derived.Test.YtjhfalgmgagdhaaGreatDoorGP5
import Derived.Test.YtjhfalgmgagdhaaGreatDoorGS
import Derived.Test.YtjhfalgmgagdhaaGreatDoorGC
set_option linter.unusedVariables false
set_option linter.unusedSimpArgs false
set_option linter.unnecessarySimpa false
section
namespace Go.Proofs.YtjhfalgmgagdhaaGreatDoor.Zg
open Go.RowKit
def NewN (n:Nat) (F:FuncId):Prop:=∀{t:HL I11} {w:TW},Ct Pg F [.agg (encs I11 t).toArray] w none_ [.one .ptr] fun (p:Option Addr) w'=>∃bs b tab,bs.length=n∧Chain w' p bs b∧w.w.heap.size≤b∧(∀c∈bs,w.w.heap.size≤c∧c≠b)∧TabOk tab∧Tn w' b 0 0 0 tab
theorem new_stepN {n:Nat} {Fi:FuncId} (h:NewN n Fi) {t:HL I11} {w:TW} {ty:TypeId}:nwv w.here fun w1=>cl Pg Fi [.agg (encs I11 t).toArray] w1 [.one .ptr] fun (p:Option Addr) w2=>nwb w2 [.pointer p] ty fun b w3=>Rt none_ [.one .ptr] (fun (p:Option Addr) w'=>∃bs b tab,bs.length=n+1∧Chain w' p bs b∧w.w.heap.size≤b∧(∀c∈bs,w.w.heap.size≤c∧c≠b)∧TabOk tab∧Tn w' b 0 0 0 tab) w (.pointer (some ⟨b,0,none⟩)) w3:=by
 intro w1 e1
 refine c1 (h (t:=t)) ?_
 rintro p w2 e2 ⟨bs,b,tab,hlen,hen,hbt,hne,htab,htn⟩
 intro c w3 hn
 have hlt:=htn.lt
 have hc:c=w2.w.heap.size:=hn.at_
 have hle:w.w.heap.size≤w1.w.heap.size:=e1.size
 have hle2:=e2.size
 refine rt1 (c:=.ptr) (some ⟨c,0,none⟩) ((e1.trans e2).trans (hn.ext _)) ⟨c::bs,b,tab,by simp [hlen],?_,by omega,?_,htab,(htn.ext (hn.ext _)).at⟩
 ·refine ⟨rfl,fun hV=>?_,p,?_,(hen.ext (hn.ext _)).at⟩
  ·have hV:w3.V c:=hV
   rw [hn.V] at hV
   have:=w2.lt _ hV
   omega
  ·show w3.w.cell? _=_
   rw [cell_of_row w3.w c 0 _ ty (0,0) hn.heap]
   rfl
 ·intro x hx
  rcases List.mem_cons.1 hx with rfl|hx
  ·exact ⟨by omega,by omega⟩
  ·have:=hne x hx
   exact ⟨by omega,this.2⟩
theorem toom_NewN:NewN 3 F.toom_New:=fun {t w}=>Calls.mono (toom_New (t:=t) (w:=w)) fun e w' h=>by
 obtain ⟨x,T',h1,h2,h3,d,k,e,b,tab,k1,k2,k3,k4,k5⟩:=h
 exact ⟨x,T',h1,h2,h3,[d,k,e],b,tab,rfl,k1,k2,k3,k4,k5⟩
theorem mul_NewN:NewN 4 F.mul_New:=fun {t w}=>Ct.mul_New (new_stepN toom_NewN)
theorem divs_NewN:NewN 5 F.divs_New:=fun {t w}=>Ct.divs_New (new_stepN mul_NewN)
theorem recip_NewN:NewN 6 F.recip_New:=fun {t w}=>Ct.recip_New (new_stepN divs_NewN)
theorem div_NewN:NewN 7 F.div_New:=fun {t w}=>Ct.div_New (new_stepN recip_NewN)
theorem root_NewN:NewN 8 F.root_New:=fun {t w}=>Ct.root_New (new_stepN div_NewN)
theorem radix_NewN:NewN 9 F.radix_New:=fun {t w}=>Ct.radix_New (new_stepN root_NewN)
theorem num_NewN:NewN 10 F.num_New:=fun {t w}=>Ct.num_New (new_stepN radix_NewN)
theorem power_NewN:NewN 11 F.power_New:=fun {t w}=>Ct.power_New (new_stepN num_NewN)
theorem gcd_NewN:NewN 12 F.gcd_New:=fun {t w}=>Ct.gcd_New (new_stepN power_NewN)
theorem hgcd_NewN:NewN 13 F.hgcd_New:=fun {t w}=>Ct.hgcd_New (new_stepN gcd_NewN)
theorem modn_NewN:NewN 14 F.modn_New:=fun {t w}=>Ct.modn_New (new_stepN hgcd_NewN)
theorem NewN.mk {n:Nat} {F:FuncId} (h:NewN n F) {w:TW} {t:HL I11} (hG:Gl w) {K:Option Addr→TW→Prop} (hK:∀p w' bs b tab,Ext none_ w w'→bs.length=n→Eg w' p bs b 0 tab→w.w.heap.size≤b→p.isNone=false→K p w') (hn:0<n):cl Pg F [.agg (encs I11 t).toArray] w [.one .ptr] K:=by
 refine c1 (h (t:=t)) ?_
 rintro p w' e ⟨bs,b,tab,hl,hc,hb,hne,htab,htn⟩
 refine hK p w' bs b tab e hl ⟨hc,fun c hc=>(hne c hc).2,htab,hG.ext e,0,0,htn⟩ hb ?_
 cases bs with
 | nil=>simp at hl;omega
 | cons x xs=>rw [hc.1];rfl
end Go.Proofs.YtjhfalgmgagdhaaGreatDoor.Zg
end
