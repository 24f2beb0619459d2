/- A part of the proofs of this seat's laws. -/
import Derived.Test.YtpbimnlggalnfaaGreatDoorGHD
import Derived.Test.YtpbimnlggalnfaaGreatDoorGA
import Derived.Test.YtpbimnlggalnfaaGreatDoorGMA
import Derived.Test.YtpbimnlggalnfaaGreatDoorGMB
import Derived.Test.YtpbimnlggalnfaaGreatDoorGMD
import Derived.Test.YtpbimnlggalnfaaGreatDoorGME
import Derived.Test.YtpbimnlggalnfaaGreatDoorGKA
import Derived.Test.YtpbimnlggalnfaaGreatDoorGKE
import Derived.Test.YtpbimnlggalnfaaGreatDoorGIA
import Derived.Test.YtpbimnlggalnfaaGreatDoorGKC
import Derived.Test.YtpbimnlggalnfaaGreatDoorGB
import Derived.Test.YtpbimnlggalnfaaGreatDoorGIB
import Derived.Test.YtpbimnlggalnfaaGreatDoorGJA
import Derived.Test.YtpbimnlggalnfaaGreatDoorGJB
import Derived.Test.YtpbimnlggalnfaaGreatDoorGHA
import Derived.Test.YtpbimnlggalnfaaGreatDoorGK
import Derived.Test.YtpbimnlggalnfaaGreatDoorGQ
import Derived.Test.YtpbimnlggalnfaaGreatDoorGMC
import Derived.Test.YtpbimnlggalnfaaGreatDoorGNA
import Derived.Test.YtpbimnlggalnfaaGreatDoorGP
import Derived.Test.YtpbimnlggalnfaaGreatDoorGP1
import Derived.Test.YtpbimnlggalnfaaGreatDoorGP2
import Derived.Test.YtpbimnlggalnfaaGreatDoorGP3
import Derived.Test.YtpbimnlggalnfaaGreatDoorGP4
import Derived.Test.YtpbimnlggalnfaaGreatDoorGP5
import Derived.Test.YtpbimnlggalnfaaGreatDoorGP6
import Derived.Test.YtpbimnlggalnfaaGreatDoorGS
import Derived.Test.YtpbimnlggalnfaaGreatDoorGC
set_option linter.unusedVariables false
set_option linter.unusedSimpArgs false
set_option linter.unnecessarySimpa false
namespace Go.Proofs.YtpbimnlggalnfaaGreatDoor.Zg
open Go.RowKit
section
variable {t:Nat} {now:Int} {tab:List Int}
theorem Eg.down14{w:TW}{p:Option Addr}{b1 b2 b3 b4 b5 b6 b7 b8 b9 b10 b11 b12 b13 b14:Nat}{bs:List Nat}(h:Eg w p (b1::b2::b3::b4::b5::b6::b7::b8::b9::b10::b11::b12::b13::b14::bs) t now tab){K:Addr→Option Addr→Addr→Option Addr→Addr→Option Addr→Addr→Option Addr→Addr→Option Addr→Addr→Option Addr→Addr→Option Addr→Addr→Option Addr→Addr→Option Addr→Addr→Option Addr→Addr→Option Addr→Addr→Option Addr→Addr→Option Addr→Addr→Option Addr→Prop}(hK:∀a1 q1 a2 q2 a3 q3 a4 q4 a5 q5 a6 q6 a7 q7 a8 q8 a9 q9 a10 q10 a11 q11 a12 q12 a13 q13 a14 q14,Eg w q14 bs t now tab→HcC w t [(a14,.pointer q14),(a13,.pointer q13),(a12,.pointer q12),(a11,.pointer q11),(a10,.pointer q10),(a9,.pointer q9),(a8,.pointer q8),(a7,.pointer q7),(a6,.pointer q6),(a5,.pointer q5),(a4,.pointer q4),(a3,.pointer q3),(a2,.pointer q2),(a1,.pointer q1)]→K a1 q1 a2 q2 a3 q3 a4 q4 a5 q5 a6 q6 a7 q7 a8 q8 a9 q9 a10 q10 a11 q11 a12 q12 a13 q13 a14 q14):nck p λa1=>ldc (.ptr) w a1 λ(q1:Option Addr)=>nck q1 λa2=>ldc (.ptr) w a2 λ(q2:Option Addr)=>nck q2 λa3=>ldc (.ptr) w a3 λ(q3:Option Addr)=>nck q3 λa4=>ldc (.ptr) w a4 λ(q4:Option Addr)=>nck q4 λa5=>ldc (.ptr) w a5 λ(q5:Option Addr)=>nck q5 λa6=>ldc (.ptr) w a6 λ(q6:Option Addr)=>nck q6 λa7=>ldc (.ptr) w a7 λ(q7:Option Addr)=>nck q7 λa8=>ldc (.ptr) w a8 λ(q8:Option Addr)=>nck q8 λa9=>ldc (.ptr) w a9 λ(q9:Option Addr)=>nck q9 λa10=>ldc (.ptr) w a10 λ(q10:Option Addr)=>nck q10 λa11=>ldc (.ptr) w a11 λ(q11:Option Addr)=>nck q11 λa12=>ldc (.ptr) w a12 λ(q12:Option Addr)=>nck q12 λa13=>ldc (.ptr) w a13 λ(q13:Option Addr)=>nck q13 λa14=>ldc (.ptr) w a14 λ(q14:Option Addr)=>K a1 q1 a2 q2 a3 q3 a4 q4 a5 q5 a6 q6 a7 q7 a8 q8 a9 q9 a10 q10 a11 q11 a12 q12 a13 q13 a14 q14:=
 h.downC λq1 E1 h1 n1=>E1.downC λq2 E2 h2 n2=>E2.downC λq3 E3 h3 n3=>E3.downC λq4 E4 h4 n4=>E4.downC λq5 E5 h5 n5=>E5.downC λq6 E6 h6 n6=>E6.downC λq7 E7 h7 n7=>E7.downC λq8 E8 h8 n8=>E8.downC λq9 E9 h9 n9=>E9.downC λq10 E10 h10 n10=>E10.downC λq11 E11 h11 n11=>E11.downC λq12 E12 h12 n12=>E12.downC λq13 E13 h13 n13=>E13.downC λq14 E14 h14 n14=>hK _ q1 _ q2 _ q3 _ q4 _ q5 _ q6 _ q7 _ q8 _ q9 _ q10 _ q11 _ q12 _ q13 _ q14 E14 (.cons h14 n14 (.cons h13 n13 (.cons h12 n12 (.cons h11 n11 (.cons h10 n10 (.cons h9 n9 (.cons h8 n8 (.cons h7 n7 (.cons h6 n6 (.cons h5 n5 (.cons h4 n4 (.cons h3 n3 (.cons h2 n2 (.cons h1 n1 (.nil _)))))))))))))))
theorem Eg.ent{w:TW}{q:Option Addr}(h:Eg w q [] t now tab){i:Nat}{x:Int}(hi:tab[i]?=some x){K:Int→Prop}(hK:K x):nck q λa=>ldc (.int .i64) w ((a.add 3).add i) λ(v:Int)=>K v:=by
 obtain⟨hc,_,_,_,m,d,hT⟩:=h;have hc:q=some ⟨t,0,none⟩:=hc;subst hc;exact am (hT.tabAt hi hK)
section
variable {w w':TW} {p np:Option Addr} {q:Nat}
end
end
end Go.Proofs.YtpbimnlggalnfaaGreatDoor.Zg
