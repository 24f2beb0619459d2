/- A part of the proofs of this seat's laws. -/
import Derived.Test.YtpbimnlggalnfaaGreatDoorGA
import Derived.Test.YtpbimnlggalnfaaGreatDoorGMA
import Derived.Test.YtpbimnlggalnfaaGreatDoorGMB
import Derived.Test.YtpbimnlggalnfaaGreatDoorGMD
import Derived.Test.YtpbimnlggalnfaaGreatDoorGME
import Derived.Test.YtpbimnlggalnfaaGreatDoorGKA
import Derived.Test.YtpbimnlggalnfaaGreatDoorGKE
import Derived.Test.YtpbimnlggalnfaaGreatDoorGIA
import Derived.Test.YtpbimnlggalnfaaGreatDoorGKC
import Derived.Test.YtpbimnlggalnfaaGreatDoorGB
import Derived.Test.YtpbimnlggalnfaaGreatDoorGIB
import Derived.Test.YtpbimnlggalnfaaGreatDoorGJA
import Derived.Test.YtpbimnlggalnfaaGreatDoorGJB
import Derived.Test.YtpbimnlggalnfaaGreatDoorGHA
import Derived.Test.YtpbimnlggalnfaaGreatDoorGK
import Derived.Test.YtpbimnlggalnfaaGreatDoorGQ
import Derived.Test.YtpbimnlggalnfaaGreatDoorGMC
import Derived.Test.YtpbimnlggalnfaaGreatDoorGP
import Derived.Test.YtpbimnlggalnfaaGreatDoorGP1
import Derived.Test.YtpbimnlggalnfaaGreatDoorGP2
import Derived.Test.YtpbimnlggalnfaaGreatDoorGP3
import Derived.Test.YtpbimnlggalnfaaGreatDoorGP4
import Derived.Test.YtpbimnlggalnfaaGreatDoorGP5
import Derived.Test.YtpbimnlggalnfaaGreatDoorGP6
import Derived.Test.YtpbimnlggalnfaaGreatDoorGS
import Derived.Test.YtpbimnlggalnfaaGreatDoorGC
set_option linter.unusedVariables false
set_option linter.unusedSimpArgs false
set_option linter.unnecessarySimpa false
namespace Go.Proofs.YtpbimnlggalnfaaGreatDoor.Zg
open Go.RowKit
section
variable {s:Sl}
section
variable {α:Type} {f:α→List Value} {k:Nat}
theorem tJ(hf:∀x,(f x).length=k):∀l:List α,(l.flatMap f).length=k*l.length
 | []=>by simp
 | x::l=>by rw [List.flatMap_cons,List.length_append,hf,tJ hf l,List.length_cons,Nat.mul_add,Nat.mul_one,Nat.add_comm]
theorem xl(hf:∀x,(f x).length=k):∀{l:List α} {i:Nat} (h:i<l.length) {j:Nat},j<k→(l.flatMap f)[k*i+j]?=(f l[i])[j]?
 | x::l,0,h,j,hj=>by
  rw [List.flatMap_cons,Nat.mul_zero,Nat.zero_add,List.getElem?_append_left (by rw [hf];exact hj)];rfl
 | x::l,i+1,h,j,hj=>by
  rw [List.flatMap_cons,List.getElem?_append_right (by rw [hf,Nat.mul_add];omega),hf,show k*(i+1)+j-k=k*i+j by rw [Nat.mul_add];omega,xl hf (by simpa using h) hj];rfl
theorem Rdv.lenk(hf:∀x,(f x).length=k)(hk:0<k){w:TW}{l:List α}(h:Rdv w k s (l.flatMap f)):s.n=l.length:=by
 have h1:=h.1;rw [tJ hf,Nat.mul_comm] at h1;exact (Nat.eq_of_mul_eq_mul_right hk h1).symm
theorem Rdv.atk(hf:∀x,(f x).length=k)(hk:0<k){w:TW}{l:List α}(h:Rdv w k s (l.flatMap f)){i:Int}{j:Nat}(hi:i=j)(hj:j<l.length){K:Addr→Prop}(hK:∀a:Addr,(∀m,m<k→w.w.cell? (a.add m)=(f l[j])[m]?)→K a):ixa s i k K:=by
 subst hi;have hn:=h.lenk hf hk;obtain⟨_,_,_,h4⟩:=h;obtain⟨b,o,hp,hV,hc⟩:=h4 (λe=>by have:=congrArg List.length e;rw [tJ hf,List.length_nil] at this;have:=Nat.mul_pos hk (show 0<l.length by omega);omega);refine⟨⟨b,o,none⟩,hp,om,om,?_⟩;rw [fW];refine hK _ λm hm=>?_
 have hlt:m<(f l[j]).length:=by rw [hf];exact hm
 have e:o+(j:Int).toNat*k+m=o+(k*j+m):=by rw [Int.toNat_natCast,Nat.mul_comm];omega
 rw [fW,e];have hg:=xl hf hj hm;rw [List.getElem?_eq_getElem hlt] at hg ⊢;exact hc _ _ hg
end
abbrev S4t:Type:=Sl × Sl × Sl × Sl
abbrev N4t:Type:=Nat × Nat × Nat × Nat
structure M3 (w:TW) (t:S4t) (v:N4t):Prop where
 n:N4 w t.1 t.2.1 t.2.2.1 t.2.2.2 v.1 v.2.1 v.2.2.1 v.2.2.2
 s:S4 3 v.1 v.2.1 v.2.2.1 v.2.2.2
 l:t.1.n≤3∧t.2.1.n≤3∧t.2.2.1.n≤3∧t.2.2.2.n≤3
theorem M3.ext{w w':TW}{t:S4t}{v:N4t}(h:M3 w t v)(e:Ext aa w w'):M3 w' t v:=⟨h.n.ext e,h.s,h.l⟩
section
variable {w:TW} {p:Option Addr} {hg g po nu ra ro dv rc c m d k e t:Nat} {now:Int} {tab:List Int}
end
end
section
theorem Eg.down7{w:TW}{p:Option Addr}{b1 b2 b3 b4 b5 b6 b7 t:Nat}{bs:List Nat}{now:Int}{tab:List Int}(h:Eg w p (b1::b2::b3::b4::b5::b6::b7::bs) t now tab){K:Addr→Option Addr→Addr→Option Addr→Addr→Option Addr→Addr→Option Addr→Addr→Option Addr→Addr→Option Addr→Addr→Option Addr→Prop}(hK:∀a1 q1 a2 q2 a3 q3 a4 q4 a5 q5 a6 q6 a7 q7,Eg w q7 bs t now tab→HcC w t [(a7,.pointer q7),(a6,.pointer q6),(a5,.pointer q5),(a4,.pointer q4),(a3,.pointer q3),(a2,.pointer q2),(a1,.pointer q1)]→K a1 q1 a2 q2 a3 q3 a4 q4 a5 q5 a6 q6 a7 q7):nck p λa1=>ldc (.ptr) w a1 λ(q1:Option Addr)=>nck q1 λa2=>ldc (.ptr) w a2 λ(q2:Option Addr)=>nck q2 λa3=>ldc (.ptr) w a3 λ(q3:Option Addr)=>nck q3 λa4=>ldc (.ptr) w a4 λ(q4:Option Addr)=>nck q4 λa5=>ldc (.ptr) w a5 λ(q5:Option Addr)=>nck q5 λa6=>ldc (.ptr) w a6 λ(q6:Option Addr)=>nck q6 λa7=>ldc (.ptr) w a7 λ(q7:Option Addr)=>K a1 q1 a2 q2 a3 q3 a4 q4 a5 q5 a6 q6 a7 q7:=
 h.downC λq1 E1 h1 n1=>E1.downC λq2 E2 h2 n2=>E2.downC λq3 E3 h3 n3=>E3.downC λq4 E4 h4 n4=>E4.downC λq5 E5 h5 n5=>E5.downC λq6 E6 h6 n6=>E6.downC λq7 E7 h7 n7=>hK _ q1 _ q2 _ q3 _ q4 _ q5 _ q6 _ q7 E7 (.cons h7 n7 (.cons h6 n6 (.cons h5 n5 (.cons h4 n4 (.cons h3 n3 (.cons h2 n2 (.cons h1 n1 (.nil _))))))))
section
variable {w:TW} {p:Option Addr} {mo hg g po nu ra ro dv rc c m d k e t:Nat} {now:Int} {tab:List Int}
end
end
end Go.Proofs.YtpbimnlggalnfaaGreatDoor.Zg
