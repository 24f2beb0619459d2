/- A part of the proofs of this seat's laws. -/
import Derived.Test.YtpbimnlggalnfaaGreatDoorGMA
import Derived.Test.YtpbimnlggalnfaaGreatDoorGJB
import Derived.Test.YtpbimnlggalnfaaGreatDoorGP1
import Derived.Test.YtpbimnlggalnfaaGreatDoorGIA
import Derived.Test.YtpbimnlggalnfaaGreatDoorGP4
set_option linter.unusedVariables false
set_option linter.unusedSimpArgs false
set_option linter.unnecessarySimpa false
namespace Go.Proofs.YtpbimnlggalnfaaGreatDoor.Zg
open Go.RowKit
section
variable {A B C D a b c d n:Nat}
theorem Eu.small(h:Eu a b n A B C D c d):A≤max 1 a∧B≤max 1 a∧C≤max 1 b∧D≤max 1 b∧c≤max a b∧d≤b:=by
 induction h with
 | zero=>omega
 | @step n A B C D c d h h0 ih=>
  obtain⟨e1,e2⟩:=(h.step h0).eqs;have k1:A*(c/d)+B≤(A*(c/d)+B)*d:=Nat.le_mul_of_pos_right _ h0;have k2:C*(c/d)+D≤(C*(c/d)+D)*d:=Nat.le_mul_of_pos_right _ h0;have k3:c%d<d:=Nat.mod_lt _ h0;omega
def sg(n:Nat):Int:=if n%2=0 then 1 else -1
theorem Eu.bez(h:Eu a b n A B C D c d):(a:Int)*(sg n*D)+b*(-(sg n*B))=c:=by
 obtain⟨h1,h2⟩:=h.back;unfold sg;split
 ·rename_i hn;have e:((D*a:Nat):Int)=((B*b+c:Nat):Int):=congrArg _ (h1 hn).1;simp only [Int.natCast_mul,Int.natCast_add] at e;grind
 ·have e:((B*b:Nat):Int)=((D*a+c:Nat):Int):=congrArg _ (h2 om).1;simp only [Int.natCast_mul,Int.natCast_add] at e;grind
theorem uS(n x:Nat):(sg n*(x:Int)).natAbs=x:=by unfold sg;split<;>simp
theorem wW(n x:Nat):(-(sg n*(x:Int))).natAbs=x:=by rw [Int.natAbs_neg,uS]
def Iv(a m r:Nat):Prop:=r<m∧a*r%m=1%m
theorem ad7{m:Nat}(hm:0<m){x y:Int}(h:((a%m:Nat):Int)*x+m*y=1):Iv a m (x%(m:Int)).toNat:=by
 have m0:(0:Int)<m:=om;have h0:=Int.emod_nonneg x (show (m:Int)≠0 by omega);have h1:=Int.emod_lt_of_pos x m0;refine⟨om,?_⟩
 have:((a*(x%(m:Int)).toNat%m:Nat):Int)=((1%m:Nat):Int):=by
  rw [Int.natCast_emod,Int.natCast_mul,Int.toNat_of_nonneg h0,Int.mul_emod,Int.emod_emod_of_dvd _ (Int.dvd_refl _),←Int.mul_emod];rw [Int.natCast_emod] at h
  have e:((a:Int)%m*x)%m=1%m:=by
   have:(a:Int)%m*x=1+m*(-y):=by grind
   rw [this,Int.add_mul_emod_self_left]
  rw [Int.mul_emod,Int.emod_emod_of_dvd _ (Int.dvd_refl _),←Int.mul_emod] at e;rw [e];rfl
 exact Int.ofNat_inj.1 this
end
section
variable {q:Nat}
def HcC(w:TW)(t:Nat)(l:List (Addr × Value)):Prop:=∀y∈l,Hc w y.1 y.2∧y.1.block≠t
section
variable {w w':TW} {t:Nat} {l m:List (Addr × Value)}
theorem HcC.nil(w:TW):HcC w t []:=λy h=>(by cases h)
theorem HcC.cons{a:Addr}{v:Value}(h:Hc w a v)(n:a.block≠t)(hl:HcC w t l):HcC w t ((a,v)::l):=λy hy=>by
 rcases List.mem_cons.1 hy with rfl|hy
 ·exact⟨h,n⟩
 ·exact hl y hy
theorem HcC.tail{y:Addr × Value}(h:HcC w t (y::l)):HcC w t l:=λz hz=>h z (List.mem_cons_of_mem _ hz)
theorem HcC.app(h:HcC w t l)(k:HcC w t m):HcC w t (l++m):=λy hy=>(List.mem_append.1 hy).elim (h y) (k y)
theorem HcC.ext(h:HcC w t l)(e:Ext aa w w'):HcC w' t l:=λy hy=>⟨(h y hy).1.ext e,(h y hy).2⟩
theorem HcC.extT(h:HcC w t l)(e:Xt1 t w w'):HcC w' t l:=λy hy=>⟨(h y hy).1.extT e (h y hy).2,(h y hy).2⟩
theorem aN{K:Prop}(h:HcC w t l)(hK:K):hld w l K:=iF (λy hy=>(h y hy).1.1) hK
end
theorem Eg.down9{w:TW}{p:Option Addr}{b1 b2 b3 b4 b5 b6 b7 b8 b9 t:Nat}{bs:List Nat}{now:Int}{tab:List Int}(h:Eg w p (b1::b2::b3::b4::b5::b6::b7::b8::b9::bs) t now tab){K:Addr→Option Addr→Addr→Option Addr→Addr→Option Addr→Addr→Option Addr→Addr→Option Addr→Addr→Option Addr→Addr→Option Addr→Addr→Option Addr→Addr→Option Addr→Prop}(hK:∀a1 q1 a2 q2 a3 q3 a4 q4 a5 q5 a6 q6 a7 q7 a8 q8 a9 q9,Eg w q9 bs t now tab→HcC w t [(a9,.pointer q9),(a8,.pointer q8),(a7,.pointer q7),(a6,.pointer q6),(a5,.pointer q5),(a4,.pointer q4),(a3,.pointer q3),(a2,.pointer q2),(a1,.pointer q1)]→K a1 q1 a2 q2 a3 q3 a4 q4 a5 q5 a6 q6 a7 q7 a8 q8 a9 q9):nck p λa1=>ldc (.ptr) w a1 λ(q1:Option Addr)=>nck q1 λa2=>ldc (.ptr) w a2 λ(q2:Option Addr)=>nck q2 λa3=>ldc (.ptr) w a3 λ(q3:Option Addr)=>nck q3 λa4=>ldc (.ptr) w a4 λ(q4:Option Addr)=>nck q4 λa5=>ldc (.ptr) w a5 λ(q5:Option Addr)=>nck q5 λa6=>ldc (.ptr) w a6 λ(q6:Option Addr)=>nck q6 λa7=>ldc (.ptr) w a7 λ(q7:Option Addr)=>nck q7 λa8=>ldc (.ptr) w a8 λ(q8:Option Addr)=>nck q8 λa9=>ldc (.ptr) w a9 λ(q9:Option Addr)=>K a1 q1 a2 q2 a3 q3 a4 q4 a5 q5 a6 q6 a7 q7 a8 q8 a9 q9:=
 h.downC λq1 E1 h1 n1=>E1.downC λq2 E2 h2 n2=>E2.downC λq3 E3 h3 n3=>E3.downC λq4 E4 h4 n4=>E4.downC λq5 E5 h5 n5=>E5.downC λq6 E6 h6 n6=>E6.downC λq7 E7 h7 n7=>E7.downC λq8 E8 h8 n8=>E8.downC λq9 E9 h9 n9=>hK _ q1 _ q2 _ q3 _ q4 _ q5 _ q6 _ q7 _ q8 _ q9 E9 (.cons h9 n9 (.cons h8 n8 (.cons h7 n7 (.cons h6 n6 (.cons h5 n5 (.cons h4 n4 (.cons h3 n3 (.cons h2 n2 (.cons h1 n1 (.nil _))))))))))
theorem tM{P:Program}{f:FuncId}{args:List Value}{w:TW}{t:Nat}{rt:List VT}{Φ K:Tel (fl rt) (TW→Prop)}(hE:Tz w t)(h:Ct P f args w (λk=>k=t) rt Φ)(hK:qk (fl rt) (lam (fl rt) λx=>∀w',Xt1 t w w'→app (fl rt) Φ x w'→app (fl rt) K x w')):cl P f args w rt K:=gW h (λc hc=>by subst hc;exact hE.V) hK
abbrev M4:List VT:=[.agg [.slice,.slice,.slice,.slice]]
structure N4 (w:TW) (a b c d:Sl) (A B C D:Nat):Prop where
 a:Nt w a A
 b:Nt w b B
 c:Nt w c C
 d:Nt w d D
structure O4 (w:TW) (H:Nat) (a b c d:Sl) (A B C D:Nat):Prop where
 a:On w H a A
 b:On w H b B
 c:On w H c C
 d:On w H d D
section
variable {w w':TW} {H:Nat} {a b c d:Sl} {A B C D:Nat}
theorem O4.n(h:O4 w H a b c d A B C D):N4 w a b c d A B C D:=⟨h.a.nt,h.b.nt,h.c.nt,h.d.nt⟩
theorem O4.ext(h:O4 w H a b c d A B C D)(e:Ext aa w w'):O4 w' H a b c d A B C D:=⟨On.ext h.a e,On.ext h.b e,On.ext h.c e,On.ext h.d e⟩
theorem O4.less{H':Nat}(h:O4 w H a b c d A B C D)(e:H'≤H):O4 w H' a b c d A B C D:=⟨h.a.less e,h.b.less e,h.c.less e,h.d.less e⟩
theorem O4.at{k:Nat}(h:O4 w H a b c d A B C D):O4 (w.at k) H a b c d A B C D:=⟨h.a.at,h.b.at,h.c.at,h.d.at⟩
theorem N4.ext(h:N4 w a b c d A B C D)(e:Ext aa w w'):N4 w' a b c d A B C D:=⟨h.a.ext e,h.b.ext e,h.c.ext e,h.d.ext e⟩
theorem N4.extT{t:Nat}(h:N4 w a b c d A B C D)(hT:Tz w t)(e:Xt1 t w w'):N4 w' a b c d A B C D:=⟨h.a.extT hT e,h.b.extT hT e,h.c.extT hT e,h.d.extT hT e⟩
theorem N4.here(h:N4 w a b c d A B C D):N4 w.here a b c d A B C D:=⟨h.a.here,h.b.here,h.c.here,h.d.here⟩
theorem N4.drew(h:N4 w a b c d A B C D):N4 w.drew a b c d A B C D:=⟨h.a.drew,h.b.drew,h.c.drew,h.d.drew⟩
def S4(n A B C D:Nat):Prop:=sz A≤n∧sz B≤n∧sz C≤n∧sz D≤n
theorem hgcd_Unit:Ct Pg F.jN [] w aa M4 λ(a b c d:Sl) w'=>O4 w' w.w.heap.size a b c d 1 0 0 1:=by
 refine Ct.jN ?_;unfold Sh.jN;intro w1 e1;refine c1 (limb_One (y:=1) dcd) λs w2 e2 h2=>c1 (limb_One (y:=1) dcd) λs1 w3 e3 h3=>?_
 intro w4 e4;exact⟨(_,Sl.nil,Sl.nil,_,()),rfl,((e1.trans e2).trans e3).trans e4,⟨((On.ext h2 (e3.trans e4)).less e1.size).at,On.nil _ _,On.nil _ _,((On.ext h3 e4).less (e1.trans e2).size).at⟩⟩
theorem hgcd_norm(h:N4 w a b c d A B C D)(hs:S4 1099511627776 A B C D):Ct Pg F.jM [.agg #[a.v,b.v,c.v,d.v]] w aa M4 λ(a b c d:Sl) w'=>O4 w' w.w.heap.size a b c d A B C D:=by
 obtain⟨s1,s2,s3,s4⟩:=hs;refine Ct.jM ?_;unfold Sh.jM;intro w1 e1 w2 e2;have e12:=(e1.trans e2).drew;have h:=h.here.ext e12;refine c1 (limb_Norm h.a om) λs w3 e3 h3=>?_
 refine c1 (limb_Norm (h.b.ext e3) om) λs1 w4 e4 h4=>?_
 refine c1 (limb_Norm (h.c.ext (e3.trans e4)) om) λs2 w5 e5 h5=>?_
 refine c1 (limb_Norm (h.d.ext ((e3.trans e4).trans e5)) om) λs3 w6 e6 h6=>?_
 intro w7 e7;have z3:=e12.trans e3;have z4:=z3.trans e4;have z5:=z4.trans e5;exact⟨(_,_,_,_,()),rfl,(z5.trans e6).trans e7,⟨((On.ext h3 (((e4.trans e5).trans e6).trans e7)).less e12.size).at,((On.ext h4 ((e5.trans e6).trans e7)).less z3.size).at,((On.ext h5 (e6.trans e7)).less z4.size).at,((On.ext h6 e7).less z5.size).at⟩⟩
theorem hgcd_by{s u:Sl}{x y p r v:Nat}(hs:Nt w s x)(hu:Nt w u y)(hp:p<W64)(hq:q<W64)(hr:r<W64)(hv:v<W64)(hx:sz x≤1048576)(hy:sz y≤1048576):
  Ct Pg F.kF [s.v,u.v,.int .u64 p,.int .u64 q,.int .u64 r,.int .u64 v] w aa [.one .slice,.one .slice] λ(a b:Sl) w'=>On w' w.w.heap.size a (x*p+y*r)∧On w' w.w.heap.size b (x*q+y*v):=by
 refine Ct.kF ?_;unfold Sh.kF
 have hs:=hs.here;have hu:=hu.here;have k1:=dt x p;have k2:=gI hp;have k3:=dt x q;have k4:=gI hq;refine c1 (limb_MulWord hs hp om) λs1 w1 e1 h1=>?_
 refine c1 (limb_AddMul h1.nt (hu.ext e1) hr om om) λs2 w2 e2 h2=>?_
 have e12:=e1.trans e2;refine c1 (limb_MulWord (hs.ext e12) hq om) λs3 w3 e3 h3=>?_
 have e13:=e12.trans e3;refine c1 (limb_AddMul h3.nt (hu.ext e13) hv om om) λs4 w4 e4 h4=>?_
 exact rt2 (c:=.slice) (d:=.slice) _ _ (e13.trans e4) ⟨((On.ext h2 (e3.trans e4)).less e1.size).at,(h4.less e13.size).at⟩
theorem hgcd_behind{P Q R S N:Nat}(h:N4 w a b c d A B C D)(hs:S4 1048576 A B C D)(hP:P<W64)(hQ:Q<W64)(hR:R<W64)(hS:S<W64):
  Ct Pg F.iW [.agg #[a.v,b.v,c.v,d.v],.agg #[.int .u64 P,.int .u64 Q,.int .u64 R,.int .u64 S,.int .i64 N]] w aa M4 λ(a b c d:Sl) w'=>O4 w' w.w.heap.size a b c d (A*S+B*R) (A*Q+B*P) (C*S+D*R) (C*Q+D*P):=by
 obtain⟨s1,s2,s3,s4⟩:=hs;refine Ct.iW ?_;unfold Sh.iW;intro w1 e1 w2 e2 w3 e3;have e13:=(e1.trans e2).trans e3;have h:=h.here.ext e13;refine c2 (hgcd_by h.a h.b hS hQ hR hP s1 s2) ?_;rintro s s1 w4 e4 ⟨h1,h2⟩;intro w5 e5 w6 e6;have e46:=(e4.trans e5).trans e6;refine c2 (hgcd_by (h.c.ext e46) (h.d.ext e46) hS hQ hR hP s3 s4) ?_;rintro s2 s3 w7 e7 ⟨h3,h4⟩;intro w8 e8 w9 e9 w10 e10;have e710:=(e8.trans e9).trans e10;have e510:=((e5.trans e6).trans e7).trans e710;exact⟨(_,_,_,_,()),rfl,(e13.trans e4).trans e510,⟨((On.ext h1 e510).less e13.size).at,((On.ext h2 e510).less e13.size).at,((On.ext h3 e710).less (e13.trans e46).size).at,((On.ext h4 e710).less (e13.trans e46).size).at⟩⟩
end
section
variable {w:TW} {p:Option Addr} {hg g po nu ra ro dv rc c m d k e t:Nat} {now:Int} {tab:List Int}
theorem abg{a0 a1 a2 a3 qs:Sl}{A B C D:Nat}(hE:Eg w p [hg,g,po,nu,ra,ro,dv,rc,c,m,d,k,e] t now tab)(h:N4 w a0 a1 a2 a3 A B C D)(hq:Nt w qs q)(hs:S4 1048576 A B C D)(hz:sz q≤1048576)(h0:0≤now)(h1:now≤1000000000000000000):
  Ct Pg F.fz [.pointer p,.agg #[a0.v,a1.v,a2.v,a3.v],qs.v] w (λk=>k=t) M4 λ(a b c' d':Sl) w'=>N4 w' a b c' d' (A*q+B) A (C*q+D) C∧Eg w' p [hg,g,po,nu,ra,ro,dv,rc,c,m,d,k,e] t now tab:=by
 obtain⟨z1,z2,z3,z4⟩:=hs;refine Ct.fz ?_;unfold Sh.fz;intro w1 e1 w2 e2;have e12:=(e1.trans e2).drew;have hE:=hE.here.ext e12;have h:=h.here.ext e12;have hq:=hq.here.ext e12;refine hE.down9 λa1 q1 a2 q2 a3 q3 a4 q4 a5 q5 a6 q6 a7 q7 a8 q8 a9 q9 E9 H9=>hE.down9 λb1 r1 b2 r2 b3 r3 b4 r4 b5 r5 b6 r6 b7 r7 b8 r8 b9 r9 F9 G9=>?_
 have hz:=hE.tz;refine t1 hz (kZ E9 h.a hq om om h0 om) ?_;rintro s w3 x3 ⟨h3,E9⟩;have hE3:=hE.re x3 E9;have F9:=F9.re x3 E9;have h:=h.extT hz x3;have hq:=hq.extT hz x3;have H9:=H9.extT x3;have G9:=G9.extT x3;refine aN (G9.app H9.tail) ?_;have k1:=dt A q;refine c1 (limb_Add h3.nt h.b om om) λs1 w4 e4 h4=>?_
 have H9:=H9.ext e4;have G9:=G9.ext e4;have h:=h.ext e4;refine aN (G9.app H9.tail) ?_;have F9:=F9.ext e4;have hE4:=hE3.ext e4;refine t1 F9.tz (kZ F9 h.c (hq.ext e4) om om h0 om) ?_;rintro s2 w5 x5 ⟨h5,F9⟩;have hE5:=hE4.re x5 F9;have h:=h.extT hE4.tz x5;have h4:=h4.extT hE4.tz x5;have H9:=H9.extT x5;have G9:=G9.extT x5;refine aN (G9.tail.app H9.tail) ?_;have k2:=dt C q;refine c1 (limb_Add h5.nt h.d om om) λs3 w6 e6 h6=>?_
 refine aN ((G9.ext e6).tail.app (H9.ext e6).tail) ?_;intro w7 e7;have e67:=e6.trans e7;have h:=h.ext e67;have x37:=(x3.trans e4.any).trans (x5.trans e67.any);exact⟨(_,_,_,_,()),rfl,e12.any.trans x37,⟨((On.ext h4 e67).nt).at,h.a.at,(On.ext h6 e7).nt.at,h.c.at⟩,(hE5.ext e67).at⟩
end
end
section
variable {A B C D a b n x y:Nat}
theorem Eu.halves{c d:Nat}(h:Eu a b n A B C D c d):0<n→c*d*2^(n-1)≤b*b:=by
 induction h with
 | zero=>intro h;omega
 | @step n A B C D c d h h0 ih=>
  intro _;rw [Nat.add_sub_cancel];rcases Nat.eq_zero_or_pos n with hn|hn
  ·subst hn;cases h;have:a%b<b:=Nat.mod_lt _ h0;have:=Nat.mul_le_mul_left b (Nat.le_of_lt this);omega
  ·have h1:=ih hn;have h2:=h.lt hn
   have h3:2*(c%d)≤c:=by
    have e:=Nat.div_add_mod c d;have hr:=Nat.mod_lt c h0;have hq:1≤c/d:=(Nat.le_div_iff_mul_le h0).2 om;have:=Nat.mul_le_mul_left d hq;omega
   have e:2^n=2*2^(n-1):=by
    obtain⟨m,rfl⟩:∃m,n=m+1:=⟨n-1,om⟩;rw [Nat.add_sub_cancel,Nat.pow_succ,Nat.mul_comm]
   have h4:d*(c%d)*2≤c*d:=by
    rw [Nat.mul_assoc,Nat.mul_comm (c%d),Nat.mul_comm c];exact Nat.mul_le_mul_left _ h3
   have h5:=Nat.mul_le_mul_right (2^(n-1)) h4;rw [e,←Nat.mul_assoc];omega
theorem Eu.count{c d:Nat}(h:Eu a b n A B C D c d):n≤2*bl b+1:=by
 induction h with
 | zero=>omega
 | @step n A B C D c d h h0 _=>
  rcases Nat.eq_zero_or_pos n with hn|hn
  ·omega
  ·have h1:=h.halves hn;have h2:=h.lt hn;have h3:0<c*d:=Nat.mul_pos om h0;have h4:2^(n-1)≤c*d*2^(n-1):=Nat.le_mul_of_pos_left _ h3
   have h5:b*b<2^(bl b+bl b):=by
    rw [Nat.pow_add];have:=fr b;have k1:b*b≤b*2^bl b:=Nat.mul_le_mul_left _ (Nat.le_of_lt this);have k2:b*2^bl b<2^bl b*2^bl b:=Nat.mul_lt_mul_of_pos_right this (Nat.two_pow_pos _);omega
   have h6:2^(n-1)<2^(bl b+bl b):=om;have:=(Nat.pow_lt_pow_iff_right (a:=2) dcd).1 h6;omega
def St(x y k N A B C D c d:Nat):Prop:=Eu x y N A B C D c d∧bl d≤k∧(N=0∨¬bl c≤k)
theorem Eu.s4{N c d:Nat}(h:Eu x y N A B C D c d)(hx:sz x≤n)(hy:sz y≤n)(hn:1≤n):S4 n A B C D∧sz c≤n∧sz d≤n:=by
 obtain⟨h1,h2,h3,h4,h5,h6⟩:=h.small
 have k1:sz (max 1 x)≤n:=by
  rcases Nat.le_total 1 x with h|h
  ·rwa [Nat.max_eq_right h]
  ·rw [Nat.max_eq_left h];exact Nat.le_trans (gI dcd) hn
 have k2:sz (max 1 y)≤n:=by
  rcases Nat.le_total 1 y with h|h
  ·rwa [Nat.max_eq_right h]
  ·rw [Nat.max_eq_left h];exact Nat.le_trans (gI dcd) hn
 have k3:sz (max x y)≤n:=by
  rcases Nat.le_total x y with h|h
  ·rwa [Nat.max_eq_right h]
  ·rwa [Nat.max_eq_left h]
 exact⟨⟨Nat.le_trans (aq h1) k1,Nat.le_trans (aq h2) k1,Nat.le_trans (aq h3) k2,Nat.le_trans (aq h4) k2⟩,Nat.le_trans (aq h5) k3,Nat.le_trans (aq h6) hy⟩
section
variable {w:TW} {p:Option Addr} {hg g po nu ra ro dv rc c m d k e t:Nat} {now:Int} {tab:List Int}
abbrev R7:List VT:=[.agg [.slice,.slice,.slice,.slice],.one .slice,.one .slice,.one (.int .i64)]
set_option maxHeartbeats 800000 in
theorem wD{QQ:Nat→Nat→Prop}{ZZ:Nat}(hD:mB QQ)(hQ:∀x' y',sz x'≤ZZ→sz y'≤ZZ→QQ x' y')(hZ1:1≤ZZ)(hZZ:ZZ≤4096){a b:Sl}{K:Int}(hE:Eg w p [hg,g,po,nu,ra,ro,dv,rc,c,m,d,k,e] t now tab)(ha:Nt w a x)(hb:Nt w b y)(hx:sz x≤ZZ)(hy:sz y≤ZZ)(h0:0≤now)(h1:now≤1000000000000000000):
  Ct Pg F.dL [.pointer p,a.v,b.v,.int .i64 K] w (λk=>k=t) R7 λ(m0 m1 m2 m3 cs ds:Sl)(n:Int) w'=>(∃N A B C D cc dd:Nat,n=N∧St x y K.toNat N A B C D cc dd∧O4 w' w.w.heap.size m0 m1 m2 m3 A B C D∧On w' w.w.heap.size cs cc∧On w' w.w.heap.size ds dd)∧Eg w' p [hg,g,po,nu,ra,ro,dv,rc,c,m,d,k,e] t now tab:=by
 refine Ct.dL ?_;unfold Sh.dL;intro w1 e1;refine cl0 hgcd_Unit ?_;rintro r r1 r2 r3 w2 e2 hU;have e12:=e1.trans e2;refine c1 (limb_Norm (ha.here.ext e12) om) λs w3 e3 hs=>?_
 have e13:=e12.trans e3;refine c1 (limb_Norm (hb.here.ext e13) om) λs1 w4 e4 hs1=>?_
 intro w5 e5;have e14:=e13.trans e4;have e15:=e14.trans e5;have hs:=(On.ext hs (e4.trans e5)).less e12.size;have hs1:=(On.ext hs1 e5).less e13.size;have hU:=(hU.ext ((e3.trans e4).trans e5)).n;have hE5:=hE.here.ext e15;obtain⟨Kn,hKn⟩:∃Kn,K.toNat=Kn:=⟨_,rfl⟩;rw [hKn];refine ag (y:=(Kn:Int)) (by split<;>omega) ?_;clear ha hb;refine⟨λ(cs ds:Sl)(n:Int)(m0 m1 m2 m3:Sl) w22=>(∃N A B C D cc dd:Nat,n=N∧St x y Kn N A B C D cc dd∧N4 w22 m0 m1 m2 m3 A B C D∧On w22 w.w.heap.size cs cc∧On w22 w.w.heap.size ds dd)∧Xt1 t w.here w22∧Eg w22 p [hg,g,po,nu,ra,ro,dv,rc,c,m,d,k,e] t now tab,?_,?_⟩
 ·refine⟨λ(M:Nat)(cs ds:Sl)(n:Int)(m0 m1 m2 m3:Sl) w6=>∃N A B C D cc dd:Nat,n=N∧M=dd∧Eu x y N A B C D cc dd∧(N=0∨¬bl cc≤Kn)∧N4 w6 m0 m1 m2 m3 A B C D∧On w6 w.w.heap.size cs cc∧On w6 w.w.heap.size ds dd∧Xt1 t w.here w6∧Eg w6 p [hg,g,po,nu,ra,ro,dv,rc,c,m,d,k,e] t now tab,⟨y,0,1,0,0,1,x,y,rfl,rfl,.zero,.inl rfl,hU,hs,hs1,e15.any,hE5⟩,?_⟩;clear hs hs1 hU hE5;rintro M cs ds n m0 m1 m2 m3 w6 ⟨N,A,B,C,D,cc,dd,rfl,rfl,hEu,hN,hM,hc,hd,x6,hE6⟩;obtain⟨hS,zc,zd⟩:=hEu.s4 hx hy hZ1;have hcount:=hEu.count;have hby:=uF y;refine c1 (i6 hd.nt om) ?_;rintro _ w7 e7 rfl;have hM:=hM.ext e7;have hc:=On.ext hc e7;have hd:=On.ext hd e7;have x7:=x6.trans e7.any;have hE7:=hE6.ext e7;refine ac (λhk=>?_) (λhk=>?_)
  ·have hk:¬bl M≤Kn:=by
    have:(bl M:Int)>Kn:=hk;omega
   have hM0:0<M:=by
    rcases Nat.eq_zero_or_pos M with h|h
    ·subst h;rw [dX] at hk;omega
    ·exact h
   refine⟨λ(cs ds:Sl)(n:Int)(m0 m1 m2 m3:Sl) w21=>∃M',M'<M∧∃N A B C D cc dd:Nat,n=N∧M'=dd∧Eu x y N A B C D cc dd∧(N=0∨¬bl cc≤Kn)∧N4 w21 m0 m1 m2 m3 A B C D∧On w21 w.w.heap.size cs cc∧On w21 w.w.heap.size ds dd∧Xt1 t w.here w21∧Eg w21 p [hg,g,po,nu,ra,ro,dv,rc,c,m,d,k,e] t now tab,?_,λ_ _ _ _ _ _ _ _ h=>h⟩;refine c1 (limb_Cmp hc.nt hd.nt) ?_;rintro _ w8 e8 rfl;have hM:=hM.ext e8;have hc:=On.ext hc e8;have hd:=On.ext hd e8;have x8:=x7.trans e8.any;have hE8:=hE7.ext e8;refine⟨λ(cs' ds':Sl)(n':Int)(m0' m1' m2' m3':Sl) w17=>cs'=cs∧ds'=ds∧n'=N∧m0'=m0∧m1'=m1∧m2'=m2∧m3'=m3∧Ext aa w8 w17,?_,?_⟩
   ·refine ac (λhge=>?_) (λ_=>⟨rfl,rfl,rfl,rfl,rfl,rfl,rfl,Ext.refl _ _⟩)
    have hge:M≤cc:=Nat.not_lt.1 λh'=>by
     have:=ef.2 h';have:ij cc M≥0:=hge;omega
    refine cl0 (lead_Find hc.nt hd.nt hge om) ?_;rintro _ _ _ _ _ w9 e9 ⟨P,Q,R,S,N',rfl,rfl,rfl,rfl,rfl,lP,lQ,lR,lS,lN,c',d',hEu'⟩;intro w10 e10 w11 e11;have e811:=(e9.trans e10).trans e11;have hM:=hM.ext e811;have hc:=On.ext hc e811;have hd:=On.ext hd e811;refine c2 (lead_Row_Apply hc.nt hd.nt lP lQ lR lS om om hEu') ?_;rintro s2 s3 w12 e12' ⟨h2,h3⟩;have hM:=hM.ext e12';have hE12:=(hE8.ext e811).ext e12';have x12:=(x8.trans e811.any).trans e12'.any
    have zc':sz c'≤ZZ:=by
     have:=hEu'.small.2.2.2.2.1;have h1:sz c'≤sz (max cc M):=aq this;rw [Nat.max_eq_left hge] at h1;omega
    refine⟨λ(z:Bool)(m0' m1' m2' m3':Sl)(p0 p1 p2 p3 p4:Int) w14=>(z=true→0<N'∧¬bl c'≤Kn)∧m0'=m0∧m1'=m1∧m2'=m2∧m3'=m3∧p0=P∧p1=Q∧p2=R∧p3=S∧p4=N'∧Ext aa w12 w14,?_,?_⟩
    ·refine ac (λhp=>?_) (λ_=>⟨λh=>(by cases h),rfl,rfl,rfl,rfl,rfl,rfl,rfl,rfl,rfl,Ext.refl _ _⟩);refine c1 (i6 h2.nt om) ?_;rintro _ w13 e13' rfl;refine⟨λhz=>?_,rfl,rfl,rfl,rfl,rfl,rfl,rfl,rfl,rfl,e13'⟩;have h1:(bl c':Int)>Kn:=of_decide_eq_true hz;have h2:(N':Int)>0:=hp;omega
    rintro z m0' m1' m2' m3' _ _ _ _ _ w14 ⟨hz,rfl,rfl,rfl,rfl,rfl,rfl,rfl,rfl,rfl,e14'⟩;cases z with
    | false=>exact ap rfl ⟨rfl,rfl,rfl,rfl,rfl,rfl,rfl,(e811.trans e12').trans e14'⟩
    | true=>
     obtain⟨hN',hbc⟩:=hz rfl;have hT:=hEu.trans hEu';have hcount':=hT.count;refine aQ rfl (ag (y:=((N+N':Nat):Int)) (by show wi ((N:Int)+N')=_;rw [ar om om];omega) ?_);have hM:=(hM.ext e14').drew;have hw:=w64;refine cl0 (hgcd_behind hM ⟨by have:=hS.1;omega,by have:=hS.2.1;omega,by have:=hS.2.2.1;omega,by have:=hS.2.2.2;omega⟩ om om om om) ?_;rintro r12 r13 r14 r15 w15 e15' hO;intro w16 e16;have e1416:=(e14'.drew.trans e15').trans e16;have z11:w.w.heap.size≤w11.w.heap.size:=(x8.trans e811.any).size;refine⟨d',Nat.lt_of_lt_of_le (hEu'.lt hN') (hEu'.le.2 hN'),N+N',_,_,_,_,c',d',rfl,rfl,hT,.inr hbc,(hO.ext e16).n,(On.ext h2 e1416).less z11,(On.ext h3 e1416).less z11,x12.trans e1416.any,hE12.ext e1416⟩
   rintro cs' ds' n' m0' m1' m2' m3' w17 ⟨rfl,rfl,rfl,rfl,rfl,rfl,rfl,e17⟩;have hM:=hM.ext e17;have hc:=On.ext hc e17;have hd:=On.ext hd e17;have x17:=x8.trans e17.any;have hE17:=hE8.ext e17;refine hE17.down λq1 E1=>E1.down λq2 E2=>E2.down λq3 E3=>E3.down λq4 E4=>E4.down λq5 E5=>E5.down λq6 E6=>?_
   refine t3 E6.tz (hD E6 hc.nt hd.nt (hQ _ _ zc zd) h0 h1) ?_;rintro s4 s5 er w18 x18 ⟨h4,h5,-,E18⟩;rw [if_neg om] at h5;have hE18:=hE17.re x18 E18;have hM:=hM.extT hE17.tz x18;have hd:=hd.extT hE17.tz x18;have zq:sz (cc/M)≤sz cc:=iA;refine tM hE18.tz (abg hE18 hM h4.nt ⟨by have:=hS.1;omega,by have:=hS.2.1;omega,by have:=hS.2.2.1;omega,by have:=hS.2.2.2;omega⟩ om h0 h1) ?_;rintro r17 r18 r19 r20 w19 x19 ⟨hM',hE19⟩;have hstep:=hEu.step hM0;have hcount':=hstep.count;refine ag (y:=((N+1:Nat):Int)) (by show wi ((N:Int)+1)=_;rw [ar om om];omega) ?_;intro w20 e20;have x20:=((x17.trans x18).trans x19).trans e20.any;have h5:=(On.ext (h5.extT hE18.tz x19) e20).less x17.size;have hd:=On.ext (hd.extT hE18.tz x19) e20;exact⟨cc%M,Nat.mod_lt _ hM0,N+1,_,_,_,_,M,cc%M,rfl,rfl,hstep,.inr hk,hM'.ext e20,hd,h5,x20,hE19.ext e20⟩
  ·have hk:bl M≤Kn:=by
    have:¬(bl M:Int)>Kn:=hk;omega
   exact⟨⟨N,A,B,C,D,cc,M,rfl,⟨hEu,hk,hN⟩,hM,hc,hd⟩,x7,hE7⟩
 rintro cs ds n m0 m1 m2 m3 w22 ⟨⟨N,A,B,C,D,cc,dd,rfl,hSt,hM,hc,hd⟩,x22,hE22⟩;obtain⟨hS,-,-⟩:=hSt.1.s4 hx hy hZ1;refine cl0 (hgcd_norm hM ⟨by have:=hS.1;omega,by have:=hS.2.1;omega,by have:=hS.2.2.1;omega,by have:=hS.2.2.2;omega⟩) ?_;rintro r21 r22 r23 r24 w23 e23 hO;intro w24 e24;have e2:=e23.trans e24;exact⟨(_,_,_,_,_,_,_,()),rfl,x22.trans e2.any,⟨N,A,B,C,D,cc,dd,rfl,hSt,((hO.ext e24).less x22.size).at,(On.ext hc e2).at,(On.ext hd e2).at⟩,(hE22.ext e2).at⟩
end
end
section
variable {x y:Nat} {X Y:Int}
def Xg(x y G:Nat)(X Y:Int):Prop:=(x=0∧y=0∧G=0∧X=0∧Y=0)∨(¬(x=0∧y=0)∧∃N A B C D,Eu x y N A B C D G 0∧X=sg N*D∧Y=-(sg N*B))
theorem Xg.gcd{G:Nat}(h:Xg x y G X Y):G=Nat.gcd x y:=by
 rcases h with ⟨rfl,rfl,rfl,-⟩|⟨_,N,A,B,C,D,hE,-⟩
 ·rfl
 ·rw [←hE.gcd,Nat.gcd_zero_right]
theorem Xg.bez{G:Nat}(h:Xg x y G X Y):(x:Int)*X+y*Y=G:=by
 rcases h with ⟨rfl,rfl,rfl,rfl,rfl⟩|⟨_,N,A,B,C,D,hE,rfl,rfl⟩
 ·rfl
 ·exact hE.bez
theorem Xg.sz{G n:Nat}(h:Xg x y G X Y)(hx:sz x≤n)(hy:Zg.sz y≤n)(hn:1≤n):Zg.sz G≤n∧Zg.sz X.natAbs≤n∧Zg.sz Y.natAbs≤n:=by
 rcases h with ⟨-,-,rfl,rfl,rfl⟩|⟨_,N,A,B,C,D,hE,rfl,rfl⟩
 ·exact⟨by rw [sz0];omega,by rw [show (0:Int).natAbs=0 from rfl,sz0];omega,by rw [show (0:Int).natAbs=0 from rfl,sz0];omega⟩
 ·obtain⟨hS,hG,-⟩:=hE.s4 hx hy hn;rw [uS,wW];exact⟨hG,hS.2.2.2,hS.2.1⟩
section
variable {w:TW} {p:Option Addr} {hg g po nu ra ro dv rc c m d k e t:Nat} {now:Int} {tab:List Int}
abbrev R5x:List VT:=[.one .slice,.agg [.slice,.bool],.agg [.slice,.bool]]
theorem yk{QQ:Nat→Nat→Prop}{ZZ:Nat}(hD:mB QQ)(hQ:∀x' y',sz x'≤ZZ→sz y'≤ZZ→QQ x' y')(hZ1:1≤ZZ)(hZZ:ZZ≤4096){a b:Sl}(hE:Eg w p [hg,g,po,nu,ra,ro,dv,rc,c,m,d,k,e] t now tab)(ha:Nt w a x)(hb:Nt w b y)(hx:sz x≤ZZ)(hy:sz y≤ZZ)(h0:0≤now)(h1:now≤1000000000000000000):
  Ct Pg F.eI [.pointer p,a.v,b.v] w (λk=>k=t) R5x λ(s xs:Sl)(xn:Bool)(ys:Sl)(yn:Bool) w'=>(∃G X Y,Xg x y G X Y∧On w' w.w.heap.size s G∧Io w' w.w.heap.size xs xn X∧Io w' w.w.heap.size ys yn Y)∧Eg w' p [hg,g,po,nu,ra,ro,dv,rc,c,m,d,k,e] t now tab:=by
 refine Ct.eI ?_;unfold Sh.eI;intro w1 e1 w2 e2;have e12:=e1.trans e2;have hE2:=hE.here.ext e12;refine tM hE2.tz (wD hD hQ hZ1 hZZ hE2 (ha.here.ext e12) (hb.here.ext e12) hx hy h0 h1) ?_;rintro r r1 r2 r3 s s1 n w3 x3 ⟨⟨N,A,B,C,D,G,dd,rfl,⟨hEu,hd,-⟩,hO,hc,-⟩,hE3⟩
 have hd0:dd=0:=by
  rcases Nat.eq_zero_or_pos dd with h|h
  ·exact h
  ·have:=nO h;have:bl dd≤0:=hd;omega
 subst hd0;intro w4 e4 w5 e5;have e45:=e4.trans e5;have hO:=(hO.ext e45).less e12.size;have hc:=(On.ext hc e45).less e12.size;have hE5:=hE3.ext e45;have x5:=(e12.any.trans x3).trans e45.any;refine c1 (dS hc.nt) ?_;rintro _ w6 e6 rfl;have hO:=hO.ext e6;have hc:=On.ext hc e6;have hE6:=hE5.ext e6;have x6:=x5.trans e6.any;have hgcd:=hEu.gcd;rw [Nat.gcd_zero_right] at hgcd;refine ac (λhG=>?_) (λhG=>?_)
 ·subst hG;intro w7 e7 w8 e8;have e78:=e7.trans e8;have h2:=Nat.gcd_eq_zero_iff.1 hgcd.symm;exact⟨(Sl.nil,Sl.nil,_,Sl.nil,_,()),rfl,x6.trans e78.any,⟨0,0,0,.inl ⟨h2.1,h2.2,rfl,rfl,rfl⟩,On.nil _ _,⟨On.nil _ _,rfl⟩,⟨On.nil _ _,rfl⟩⟩,(hE6.ext e78).at⟩
 ·have h2:¬(x=0∧y=0):=λ⟨h3,h4⟩=>hG (by rw [hgcd,h3,h4];rfl)
  have hX:Xg x y G (sg N*D) (-(sg N*B)):=.inr ⟨h2,N,A,B,C,D,hEu,rfl,rfl⟩;refine aG (λhn=>?_) (λhn=>?_)
  ·simp only [beq_iff_eq] at hn;have hn:N=0:=om;subst hn;cases hEu;refine c1 (limb_One (y:=1) dcd) λs2 w9 e9 h9=>?_
   intro w10 e10 w11 e11;have e1011:=e10.trans e11;have e911:=e9.trans e1011;exact⟨(_,_,_,Sl.nil,_,()),rfl,x6.trans e911.any,⟨_,_,_,hX,(On.ext hc e911).at,⟨((On.ext h9 e1011).less x6.size).at,rfl⟩,⟨On.nil _ _,rfl⟩⟩,(hE6.ext e911).at⟩
  ·refine eP (x:=N) (y:=2) rfl rfl dcd ?_
   have hpar:(((N%2:Nat):Int) == 0)=decide (N%2=0):=by
    rw [Bool.eq_iff_iff,decide_eq_true_iff];simp only [beq_iff_eq];omega
   rw [hpar];refine⟨λ(xs:Sl)(xn:Bool)(_:Sl)(_:Bool)(ms:Sl) w15=>xs=r3∧xn=decide (sg N*(D:Int)<0)∧ms=r1∧Ext aa w6 w15,?_,?_⟩
   ·refine aG (λh=>?_) (λh=>?_)
    ·refine c1 (dS hO.d.nt.drew) ?_;rintro _ w12 e12' rfl;intro w13 e13;refine⟨rfl,?_,rfl,(Ext.refl _ _).drew.trans (e12'.trans e13)⟩;have:¬N%2=0:=by simpa using h
     have hs:sg N=-1:=by unfold sg;rw [if_neg this]
     rw [hs,Bool.eq_iff_iff];simp only [Bool.not_eq_true',decide_eq_false_iff_not,decide_eq_true_iff];omega
    ·intro w14 e14;refine⟨rfl,?_,rfl,(Ext.refl _ _).drew.trans e14⟩;have:N%2=0:=by simpa using h
     have hs:sg N=1:=by unfold sg;rw [if_pos this]
     rw [hs,eq_comm,decide_eq_false_iff_not];omega
   rintro xs xn y0 y1 ms w15 ⟨rfl,rfl,rfl,e15⟩;have hO15:=hO.ext e15;refine⟨λ(xs':Sl)(xn':Bool)(ys:Sl)(yn:Bool) w19=>xs'=xs∧xn'=decide (sg N*(D:Int)<0)∧ys=ms∧yn=decide (-(sg N*(B:Int))<0)∧Ext aa w15 w19,?_,?_⟩
   ·refine ac (λh=>?_) (λh=>?_)
    ·refine c1 (dS hO15.b.nt.drew) ?_;rintro _ w16 e16 rfl;intro w17 e17;refine⟨rfl,rfl,rfl,?_,(Ext.refl _ _).drew.trans (e16.trans e17)⟩;have hs:sg N=1:=by unfold sg;rw [if_pos h]
     rw [hs,Bool.eq_iff_iff];simp only [Bool.not_eq_true',decide_eq_false_iff_not,decide_eq_true_iff];omega
    ·intro w18 e18;refine⟨rfl,rfl,rfl,?_,(Ext.refl _ _).drew.trans e18⟩;have hs:sg N=-1:=by unfold sg;rw [if_neg h]
     rw [hs,eq_comm,decide_eq_false_iff_not];omega
   rintro xs' xn' ys yn w19 ⟨rfl,rfl,rfl,rfl,e19⟩;intro w20 e20 w21 e21;have ee:=(e15.trans e19).trans ((Ext.refl _ _).drew.trans (e20.trans e21));have hO21:=hO.ext ee;exact⟨(_,_,_,_,_,()),rfl,x6.trans ee.any,⟨_,_,_,hX,(On.ext hc ee).at,⟨by rw [uS];exact hO21.d.at,rfl⟩,⟨by rw [wW];exact hO21.b.at,rfl⟩⟩,(hE6.ext ee).at⟩
end
end
end Go.Proofs.YtpbimnlggalnfaaGreatDoor.Zg
