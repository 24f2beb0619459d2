/- A part of the proofs of this seat's laws. -/
import Derived.Test.YtpbimnlggalnfaaGreatDoorGA
import Derived.Test.YtpbimnlggalnfaaGreatDoorGMA
import Derived.Test.YtpbimnlggalnfaaGreatDoorGMB
import Derived.Test.YtpbimnlggalnfaaGreatDoorGMD
import Derived.Test.YtpbimnlggalnfaaGreatDoorGME
import Derived.Test.YtpbimnlggalnfaaGreatDoorGKA
import Derived.Test.YtpbimnlggalnfaaGreatDoorGKE
import Derived.Test.YtpbimnlggalnfaaGreatDoorGIA
import Derived.Test.YtpbimnlggalnfaaGreatDoorGKC
import Derived.Test.YtpbimnlggalnfaaGreatDoorGHA
import Derived.Test.YtpbimnlggalnfaaGreatDoorGB
import Derived.Test.YtpbimnlggalnfaaGreatDoorGIB
import Derived.Test.YtpbimnlggalnfaaGreatDoorGJA
import Derived.Test.YtpbimnlggalnfaaGreatDoorGJB
import Derived.Test.YtpbimnlggalnfaaGreatDoorGJC
import Derived.Test.YtpbimnlggalnfaaGreatDoorGK
import Derived.Test.YtpbimnlggalnfaaGreatDoorGQ
import Derived.Test.YtpbimnlggalnfaaGreatDoorGMC
import Derived.Test.YtpbimnlggalnfaaGreatDoorGP
import Derived.Test.YtpbimnlggalnfaaGreatDoorGP1
import Derived.Test.YtpbimnlggalnfaaGreatDoorGP2
import Derived.Test.YtpbimnlggalnfaaGreatDoorGP3
import Derived.Test.YtpbimnlggalnfaaGreatDoorGP4
import Derived.Test.YtpbimnlggalnfaaGreatDoorGP5
import Derived.Test.YtpbimnlggalnfaaGreatDoorGS
import Derived.Test.YtpbimnlggalnfaaGreatDoorGC
set_option linter.unusedVariables false
set_option linter.unusedSimpArgs false
set_option linter.unnecessarySimpa false
namespace Go.Proofs.YtpbimnlggalnfaaGreatDoor.Zg
open Go.RowKit
section
variable {s:Sl}
section
variable {α:Type} {f:α→List Value} {k:Nat}
theorem oL(hf:∀x,(f x).length=k):∀l:List α,(l.flatMap f).length=k*l.length
 | []=>by simp
 | x::l=>by rw [List.flatMap_cons,List.length_append,hf,oL hf l,List.length_cons,Nat.mul_add,Nat.mul_one,Nat.add_comm]
theorem aad(hf:∀x,(f x).length=k):∀{l:List α} {i:Nat} (h:i<l.length) {j:Nat},j<k→(l.flatMap f)[k*i+j]?=(f l[i])[j]?
 | x::l,0,h,j,hj=>by
  rw [List.flatMap_cons,Nat.mul_zero,Nat.zero_add,List.getElem?_append_left (by rw [hf];exact hj)];rfl
 | x::l,i+1,h,j,hj=>by
  rw [List.flatMap_cons,List.getElem?_append_right (by rw [hf,Nat.mul_add];omega),hf,show k*(i+1)+j-k=k*i+j by rw [Nat.mul_add];omega,aad hf (by simpa using h) hj];rfl
theorem Rdv.lenk(hf:∀x,(f x).length=k)(hk:0<k){w:TW}{l:List α}(h:Rdv w k s (l.flatMap f)):s.n=l.length:=by
 have h1:=h.1;rw [oL hf,Nat.mul_comm] at h1;exact (Nat.eq_of_mul_eq_mul_right hk h1).symm
theorem Rdv.atk(hf:∀x,(f x).length=k)(hk:0<k){w:TW}{l:List α}(h:Rdv w k s (l.flatMap f)){i:Int}{j:Nat}(hi:i=j)(hj:j<l.length){K:Addr→Prop}(hK:∀a:Addr,(∀m,m<k→w.w.cell? (a.add m)=(f l[j])[m]?)→K a):ixa s i k K:=by
 subst hi;have hn:=h.lenk hf hk;obtain⟨_,_,_,h4⟩:=h;obtain⟨b,o,hp,hV,hc⟩:=h4 (λe=>by have:=congrArg List.length e;rw [oL hf,List.length_nil] at this;have:=Nat.mul_pos hk (show 0<l.length by omega);omega);refine⟨⟨b,o,none⟩,hp,om,om,?_⟩;rw [eX];refine hK _ λm hm=>?_
 have hlt:m<(f l[j]).length:=by rw [hf];exact hm
 have e:o+(j:Int).toNat*k+m=o+(k*j+m):=by rw [Int.toNat_natCast,Nat.mul_comm];omega
 rw [eX,e];have hg:=aad hf hj hm;rw [List.getElem?_eq_getElem hlt] at hg ⊢;exact hc _ _ hg
end
abbrev S4t:Type:=Sl × Sl × Sl × Sl
abbrev N4t:Type:=Nat × Nat × Nat × Nat
structure M3 (w:TW) (t:S4t) (v:N4t):Prop where
 n:N4 w t.1 t.2.1 t.2.2.1 t.2.2.2 v.1 v.2.1 v.2.2.1 v.2.2.2
 s:S4 3 v.1 v.2.1 v.2.2.1 v.2.2.2
 l:t.1.n≤3∧t.2.1.n≤3∧t.2.2.1.n≤3∧t.2.2.2.n≤3
theorem M3.ext{w w':TW}{t:S4t}{v:N4t}(h:M3 w t v)(e:Ext aa w w'):M3 w' t v:=⟨h.n.ext e,h.s,h.l⟩
section
variable {w:TW} {p:Option Addr} {hg g po nu ra ro dv rc c m d k e t:Nat} {now:Int} {tab:List Int}
end
end
section
variable {M b1 b3 b4 b5 b6 b7 x:Nat} {bs:List Nat} {QQ:Nat→Nat→Prop} {a ms:Sl}
theorem Eg.down7{w:TW}{p:Option Addr}{b2 t:Nat}{now:Int}{tab:List Int}(h:Eg w p (b1::b2::b3::b4::b5::b6::b7::bs) t now tab){K:Addr→Option Addr→Addr→Option Addr→Addr→Option Addr→Addr→Option Addr→Addr→Option Addr→Addr→Option Addr→Addr→Option Addr→Prop}(hK:∀a1 q1 a2 q2 a3 q3 a4 q4 a5 q5 a6 q6 a7 q7,Eg w q7 bs t now tab→HcC w t [(a7,.pointer q7),(a6,.pointer q6),(a5,.pointer q5),(a4,.pointer q4),(a3,.pointer q3),(a2,.pointer q2),(a1,.pointer q1)]→K a1 q1 a2 q2 a3 q3 a4 q4 a5 q5 a6 q6 a7 q7):nck p λa1=>ldc (.ptr) w a1 λ(q1:Option Addr)=>nck q1 λa2=>ldc (.ptr) w a2 λ(q2:Option Addr)=>nck q2 λa3=>ldc (.ptr) w a3 λ(q3:Option Addr)=>nck q3 λa4=>ldc (.ptr) w a4 λ(q4:Option Addr)=>nck q4 λa5=>ldc (.ptr) w a5 λ(q5:Option Addr)=>nck q5 λa6=>ldc (.ptr) w a6 λ(q6:Option Addr)=>nck q6 λa7=>ldc (.ptr) w a7 λ(q7:Option Addr)=>K a1 q1 a2 q2 a3 q3 a4 q4 a5 q5 a6 q6 a7 q7:=
 h.downC λq1 E1 h1 n1=>E1.downC λq2 E2 h2 n2=>E2.downC λq3 E3 h3 n3=>E3.downC λq4 E4 h4 n4=>E4.downC λq5 E5 h5 n5=>E5.downC λq6 E6 h6 n6=>E6.downC λq7 E7 h7 n7=>hK _ q1 _ q2 _ q3 _ q4 _ q5 _ q6 _ q7 E7 (.cons h7 n7 (.cons h6 n6 (.cons h5 n5 (.cons h4 n4 (.cons h3 n3 (.cons h2 n2 (.cons h1 n1 (.nil _))))))))
theorem Eg.down10{w:TW}{p:Option Addr}{b2 b8 b9 b10 t:Nat}{now:Int}{tab:List Int}(h:Eg w p (b1::b2::b3::b4::b5::b6::b7::b8::b9::b10::bs) t now tab){K:Addr→Option Addr→Addr→Option Addr→Addr→Option Addr→Addr→Option Addr→Addr→Option Addr→Addr→Option Addr→Addr→Option Addr→Addr→Option Addr→Addr→Option Addr→Addr→Option Addr→Prop}(hK:∀a1 q1 a2 q2 a3 q3 a4 q4 a5 q5 a6 q6 a7 q7 a8 q8 a9 q9 a10 q10,Eg w q10 bs t now tab→HcC w t [(a10,.pointer q10),(a9,.pointer q9),(a8,.pointer q8),(a7,.pointer q7),(a6,.pointer q6),(a5,.pointer q5),(a4,.pointer q4),(a3,.pointer q3),(a2,.pointer q2),(a1,.pointer q1)]→K a1 q1 a2 q2 a3 q3 a4 q4 a5 q5 a6 q6 a7 q7 a8 q8 a9 q9 a10 q10):nck p λa1=>ldc (.ptr) w a1 λ(q1:Option Addr)=>nck q1 λa2=>ldc (.ptr) w a2 λ(q2:Option Addr)=>nck q2 λa3=>ldc (.ptr) w a3 λ(q3:Option Addr)=>nck q3 λa4=>ldc (.ptr) w a4 λ(q4:Option Addr)=>nck q4 λa5=>ldc (.ptr) w a5 λ(q5:Option Addr)=>nck q5 λa6=>ldc (.ptr) w a6 λ(q6:Option Addr)=>nck q6 λa7=>ldc (.ptr) w a7 λ(q7:Option Addr)=>nck q7 λa8=>ldc (.ptr) w a8 λ(q8:Option Addr)=>nck q8 λa9=>ldc (.ptr) w a9 λ(q9:Option Addr)=>nck q9 λa10=>ldc (.ptr) w a10 λ(q10:Option Addr)=>K a1 q1 a2 q2 a3 q3 a4 q4 a5 q5 a6 q6 a7 q7 a8 q8 a9 q9 a10 q10:=
 h.downC λq1 E1 h1 n1=>E1.downC λq2 E2 h2 n2=>E2.downC λq3 E3 h3 n3=>E3.downC λq4 E4 h4 n4=>E4.downC λq5 E5 h5 n5=>E5.downC λq6 E6 h6 n6=>E6.downC λq7 E7 h7 n7=>E7.downC λq8 E8 h8 n8=>E8.downC λq9 E9 h9 n9=>E9.downC λq10 E10 h10 n10=>hK _ q1 _ q2 _ q3 _ q4 _ q5 _ q6 _ q7 _ q8 _ q9 _ q10 E10 (.cons h10 n10 (.cons h9 n9 (.cons h8 n8 (.cons h7 n7 (.cons h6 n6 (.cons h5 n5 (.cons h4 n4 (.cons h3 n3 (.cons h2 n2 (.cons h1 n1 (.nil _)))))))))))
theorem qz{v:Nat}(hM:0<M):(-(v:Int)%(M:Int)).toNat=if v%M=0 then 0 else M-v%M:=by
 have e:=Nat.div_add_mod v M;have hlt:=Nat.mod_lt v hM;split
 ·rename_i h
  have:-(v:Int)=(M:Int)*(-(v/M:Nat)):=by
   rw [h,Nat.add_zero] at e;have:(v:Int)=M*(v/M:Nat):=by rw [←Int.natCast_mul,e]
   rw [this];grind
  rw [this,Int.mul_emod_right];rfl
 ·rename_i h
  have h1:-(v:Int)=((M-v%M:Nat):Int)+(M:Int)*(-(v/M:Nat)-1):=by
   have:(v:Int)=M*(v/M:Nat)+(v%M:Nat):=by rw [←Int.natCast_mul,←Int.natCast_add,e]
   have h2:((M-v%M:Nat):Int)=M-(v%M:Nat):=om;rw [h2,this];grind
  rw [h1,Int.add_mul_emod_self_left,←Int.natCast_emod,Int.toNat_natCast,Nat.mod_eq_of_lt om]
section
variable {w:TW} {p:Option Addr} {mo hg g po nu ra ro dv rc c m d k e t:Nat} {now:Int} {tab:List Int}
theorem ur(hD:mB QQ){n:Bool}{z:Int}(hE:Eg w p [mo,hg,g,po,nu,ra,ro,dv,rc,c,m,d,k,e] t now tab)(ha:Iz w a n z)(hm:Nt w ms M)(hq:QQ z.natAbs M)(hx:sz z.natAbs≤8192)(hy:sz M≤8192)(h0:0≤now)(h1:now≤1000000000000000000):
  Ct Pg F.cy [.pointer p,.agg #[a.v,.bool n],ms.v] w (λk=>k=t) [.one .slice,.one (.int .i64)] λ(s:Sl)(er:Int) w'=>(M=0→s=Sl.nil∧er=2)∧(0<M→On w' w.w.heap.size s (z%(M:Int)).toNat∧er=0)∧Eg w' p [mo,hg,g,po,nu,ra,ro,dv,rc,c,m,d,k,e] t now tab:=by
 refine Ct.cy ?_;unfold Sh.cy;intro w1 e1;have e1d:=e1.drew;have hE:=(hE.here.ext e1).drew;have ha:=ha.here.ext e1d;have hm:=(hm.here.ext e1).drew;obtain⟨v,hv,hz⟩:=ha;have hzv:z.natAbs=v:=by rw [hz];split<;>simp
 rw [hzv] at hx hq;refine hE.down7 λa1 q1 a2 q2 a3 q3 a4 q4 a5 q5 a6 q6 a7 q7 E7 H7=>?_
 refine t3 hE.tz (hD E7 hv hm hq h0 h1) ?_;rintro q r er w2 x2 ⟨-,hr,her,E7⟩;have hE2:=hE.re x2 E7;have hm:=hm.extT hE.tz x2;have y2:=e1d.any.trans x2;refine aN (H7.extT x2).tail ?_;rcases Nat.eq_zero_or_pos M with hM|hM
 ·subst hM;rw [if_pos rfl] at her;subst her;refine aQ smp ?_;exact rt2 (c:=.slice) (d:=.int .i64) Sl.nil _ y2 ⟨λ_=>⟨rfl,rfl⟩,λh=>(by omega),hE2.at⟩
 ·rw [if_neg om] at her hr;subst her;refine ap smp ?_;refine j1 (λ(b:Bool) w4=>b=decide (n=true∧v%M≠0)∧Ext aa w2 w4) ?_ ?_
  ·refine aG (λh=>?_) (λh=>?_)
   ·refine c1 (dS hr.nt) ?_;rintro _ w3 e3 rfl;refine⟨?_,e3⟩;rw [Bool.eq_iff_iff,h];simp
   ·exact⟨by rw [h];simp,Ext.refl _ _⟩
  rintro b w4 ⟨rfl,e4⟩;refine j1 (λ(s:Sl) w6=>On w6 w.w.heap.size s (z%(M:Int)).toNat∧Ext aa w2 w6) ?_ ?_
  ·have hlt:=Nat.mod_lt v hM;refine ac (λh=>?_) (λh=>?_)
   ·refine c2 (limb_Sub (hm.ext e4) (On.ext hr e4).nt om) ?_;rintro s2 ok w5 e5 ⟨-,h2⟩;have e25:=e4.trans e5;refine⟨?_,e25⟩;rw [hz,h.1,if_pos rfl,qz hM,if_neg h.2];exact h2.less (Nat.le_trans y2.size e4.size)
   ·refine⟨?_,e4⟩
    have:(z%(M:Int)).toNat=v%M:=by
     rw [hz];split
     ·rename_i hn
      have h':v%M=0:=by
       rcases Nat.eq_zero_or_pos (v%M) with h'|h'
       ·exact h'
       ·exact absurd ⟨hn,om⟩ h
      rw [qz hM,if_pos h',h']
     ·rw [←Int.natCast_emod,Int.toNat_natCast]
    rw [this];exact (On.ext hr e4).less e1d.size
  rintro s w6 ⟨h6,e6⟩;exact rt2 (c:=.slice) (d:=.int .i64) _ 0 (y2.trans e6.any) ⟨λh=>(by omega),λ_=>⟨h6.at,rfl⟩,(hE2.ext e6).at⟩
theorem ut{ZZ:Nat}(hD:mB QQ)(hQ:∀x' y',sz x'≤ZZ→sz y'≤ZZ→QQ x' y')(hZ1:1≤ZZ)(hZZ:ZZ≤4096)(hE:Eg w p [mo,hg,g,po,nu,ra,ro,dv,rc,c,m,d,k,e] t now tab)(ha:Nt w a x)(hm:Nt w ms M)(hx:sz x≤ZZ)(hy:sz M≤ZZ)(h0:0≤now)(h1:now≤1000000000000000000):
  Ct Pg F.cA [.pointer p,a.v,ms.v] w (λk=>k=t) [.one .slice,.one (.int .i64)] λ(s:Sl)(er:Int) w'=>(M=0→s=Sl.nil∧er=2)∧(0<M→Nat.gcd x M≠1→s=Sl.nil∧er=4)∧(0<M→Nat.gcd x M=1→er=0∧∃r,Iv x M r∧On w' w.w.heap.size s r)∧Eg w' p [mo,hg,g,po,nu,ra,ro,dv,rc,c,m,d,k,e] t now tab:=by
 refine Ct.cA ?_;unfold Sh.cA;refine c1 (dS hm.here) ?_;rintro _ w1 e1 rfl;have hE1:=hE.here.ext e1;have ha:=ha.here.ext e1;have hm:=hm.here.ext e1;refine ac (λhM=>?_) (λhM=>?_)
 ·exact rt2 (c:=.slice) (d:=.int .i64) Sl.nil 2 e1.any ⟨λ_=>⟨rfl,rfl⟩,λh=>(by omega),λh=>(by omega),hE1.at⟩
 have hM:0<M:=Nat.pos_of_ne_zero hM;refine hE1.down7 λa1 q1 a2 q2 a3 q3 a4 q4 a5 q5 a6 q6 a7 q7 E7 _=>?_
 refine t3 hE1.tz (hD E7 ha hm (hQ _ _ hx hy) h0 h1) ?_;rintro q r er w2 x2 ⟨-,hr,-,E7⟩;rw [if_neg om] at hr;have hE2:=hE1.re x2 E7;have hm:=hm.extT hE1.tz x2;have y2:=e1.any.trans x2;have zr:sz (x%M)≤sz x:=ni;refine hE2.down λq8 E8=>?_
 refine tM E8.tz (yk hD hQ hZ1 hZZ E8 hr.nt hm om hy h0 h1) ?_;rintro s2 r1 r2 r3 r4 w3 x3 ⟨⟨G,X,Y,hX,hG,hXs,-⟩,E8⟩;have hE3:=hE2.re x3 E8;have hm:=hm.extT hE2.tz x3;have zX:=(hX.sz (n:=ZZ) om hy hZ1).2.1;have hG1:G=Nat.gcd x M:=by rw [hX.gcd,Nat.gcd_comm x M,Nat.gcd_rec M x]
 intro w4 e4 w5 e5 w6 e6 w7 e7;have e37:=((e4.trans e5).trans e6).trans e7;refine c1 (limb_One (y:=1) dcd) λs3 w8 e8 h8=>?_
 refine c1 (limb_Cmp ((On.ext hG e37).nt.ext e8) h8.nt) ?_;rintro _ w9 e9 rfl;have e39:=(e37.trans e8).trans e9;have hE9:=hE3.ext e39;have y9:=(y2.trans x3).trans e39.any;refine aG (λh=>?_) (λh=>?_)
 ·simp only [bne_iff_ne,ne_eq] at h;have hne:Nat.gcd x M≠1:=λh'=>h (mY.2 (by rw [hG1,h']))
  exact rt2 (c:=.slice) (d:=.int .i64) Sl.nil 4 y9 ⟨λh=>(by omega),λ_ _=>⟨rfl,rfl⟩,λ_ h'=>absurd h' hne,hE9.at⟩
 ·simp only [bne_eq_false_iff_eq] at h;have hg1:G=1:=mY.1 h;have hgc:Nat.gcd x M=1:=by rw [←hG1,hg1]
  refine t2 hE9.tz (ur hD hE9 (hXs.ext e39).iz (hm.ext e39) (hQ _ _ zX hy) om om h0 h1) ?_;rintro s4 er w10 x10 ⟨-,hR,hE10⟩;obtain⟨hR1,her1⟩:=hR hM;subst her1;have hb:=hX.bez;rw [hg1] at hb;exact rt2 (c:=.slice) (d:=.int .i64) _ 0 (y9.trans x10) ⟨λh=>(by omega),λ_ h'=>absurd hgc h',λ_ _=>⟨rfl,_,ad7 hM hb,(hR1.less y9.size).at⟩,hE10.at⟩
theorem vu(hD:mB QQ){rs:Sl}(hE:Eg w p [mo,hg,g,po,nu,ra,ro,dv,rc,c,m,d,k,e] t now tab)(hr:Nt w rs x)(hm:Nt w ms M)(hq:QQ x M)(hx:sz x≤4096)(hy:sz M≤4096)(h0:0≤now)(h1:now≤1000000000000000000):
  Ct Pg F.dc [.pointer p,.agg #[rs.v,ms.v]] w (λk=>k=t) [.agg [.slice,.bool],.one (.int .i64)] λ(s:Sl)(n:Bool)(er:Int) w'=>(M=0→s=Sl.nil∧n=false∧er=2)∧(0<M→er=0∧Io w' w.w.heap.size s n (sgd x M))∧Eg w' p [mo,hg,g,po,nu,ra,ro,dv,rc,c,m,d,k,e] t now tab:=by
 refine Ct.dc ?_;unfold Sh.dc;intro w1 e1 w2 e2;have e12:=(e1.trans e2).drew;have hE:=hE.here.ext e12;have hr:=hr.here.ext e12;have hm:=hm.here.ext e12;refine hE.down7 λa1 q1 a2 q2 a3 q3 a4 q4 a5 q5 a6 q6 a7 q7 E7 H7=>?_
 refine t3 hE.tz (hD E7 hr hm hq h0 h1) ?_;rintro q r er w3 x3 ⟨-,hR,her,E7⟩;have hE3:=hE.re x3 E7;have hm:=hm.extT hE.tz x3;have y3:=e12.any.trans x3;refine aN (H7.extT x3).tail ?_;rcases Nat.eq_zero_or_pos M with hM|hM
 ·subst hM;rw [if_pos rfl] at her;subst her;refine aQ smp ?_;intro w4 e4;exact⟨(Sl.nil,_,_,()),rfl,y3.trans e4.any,λ_=>⟨rfl,rfl,rfl⟩,λh=>(by omega),(hE3.ext e4).at⟩
 ·rw [if_neg om] at her hR;subst her;refine ap smp ?_;have hlt:=Nat.mod_lt x hM;have zr:sz (x%M)≤sz x:=ni;have ed:Ext aa w3 w3.drew:=(Ext.refl _ _).drew;refine c1 (limb_Shl (n:=1) (On.ext hR ed).nt om) λs2 w5 e5 h5=>?_
  have e35:=ed.trans e5;refine c1 (limb_Cmp h5.nt (hm.ext e35)) ?_;rintro _ w6 e6 rfl;have e36:=e35.trans e6
  have hp:x%M*2^min (1:Int).toNat 1048576=2*(x%M):=by
   rw [show min (1:Int).toNat 1048576=1 by decide];omega
  rw [hp];refine ac (λh=>?_) (λh=>?_)
  ·have h:M<2*(x%M):=pD.1 h;refine c2 (limb_Sub (hm.ext e36) (On.ext hR e36).nt om) ?_;rintro s3 ok w7 e7 ⟨-,h7⟩;intro w8 e8;have hs:sgd x M=((x%M:Nat):Int)-M:=by unfold sgd;rw [if_pos h]
   have hE8:=hE3.ext ((e36.trans e7).trans e8);refine⟨(_,_,_,()),rfl,y3.trans ((e36.trans e7).trans e8).any,λh=>(by omega),λ_=>⟨rfl,?_,?_⟩,hE8.at⟩
   ·rw [hs,show (((x%M:Nat):Int)-M).natAbs=M-x%M by omega];exact ((On.ext h7 e8).less (Nat.le_trans y3.size e36.size)).at
   ·rw [hs,eq_comm,decide_eq_true_iff];omega
  ·have h:¬M<2*(x%M):=λh'=>h (pD.2 h')
   intro w9 e9;have hs:sgd x M=((x%M:Nat):Int):=by unfold sgd;rw [if_neg h]
   refine⟨(_,_,_,()),rfl,y3.trans (e36.trans e9).any,λh=>(by omega),λ_=>⟨rfl,?_,?_⟩,(hE3.ext (e36.trans e9)).at⟩
   ·rw [hs,Int.natAbs_natCast];exact ((On.ext hR (e36.trans e9)).less e12.size).at
   ·rw [hs,eq_comm,decide_eq_false_iff_not];omega
end
end
end Go.Proofs.YtpbimnlggalnfaaGreatDoor.Zg
