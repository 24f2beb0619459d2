/- A part of the proofs of this seat's laws. -/
import Derived.Test.YtpbimnlggalnfaaGreatDoorGJA
import Derived.Test.YtpbimnlggalnfaaGreatDoorGQ
import Derived.Test.YtpbimnlggalnfaaGreatDoorGP5
import Derived.Test.YtpbimnlggalnfaaGreatDoorGIB
import Derived.Test.YtpbimnlggalnfaaGreatDoorGA
import Derived.Test.YtpbimnlggalnfaaGreatDoorGMA
import Derived.Test.YtpbimnlggalnfaaGreatDoorGMB
import Derived.Test.YtpbimnlggalnfaaGreatDoorGMD
import Derived.Test.YtpbimnlggalnfaaGreatDoorGME
import Derived.Test.YtpbimnlggalnfaaGreatDoorGKA
import Derived.Test.YtpbimnlggalnfaaGreatDoorGKE
import Derived.Test.YtpbimnlggalnfaaGreatDoorGIA
import Derived.Test.YtpbimnlggalnfaaGreatDoorGKC
import Derived.Test.YtpbimnlggalnfaaGreatDoorGB
import Derived.Test.YtpbimnlggalnfaaGreatDoorGK
import Derived.Test.YtpbimnlggalnfaaGreatDoorGMC
import Derived.Test.YtpbimnlggalnfaaGreatDoorGP
import Derived.Test.YtpbimnlggalnfaaGreatDoorGP1
import Derived.Test.YtpbimnlggalnfaaGreatDoorGP2
import Derived.Test.YtpbimnlggalnfaaGreatDoorGP3
import Derived.Test.YtpbimnlggalnfaaGreatDoorGP4
import Derived.Test.YtpbimnlggalnfaaGreatDoorGP6
import Derived.Test.YtpbimnlggalnfaaGreatDoorGS
import Derived.Test.YtpbimnlggalnfaaGreatDoorGC
set_option linter.unusedVariables false
set_option linter.unusedSimpArgs false
set_option linter.unnecessarySimpa false
namespace Go.Proofs.YtpbimnlggalnfaaGreatDoor.Zg
open Go.RowKit
section
variable {w:TW} {s:Sl} {x:Nat}
theorem nk(h:Dr w s x)(h0:0<x):Ct Pg F.bJ [s.v] w aa [.one .bool] λ(r:Bool) _=>r=decide (x%2=0):=by
 refine Ct.bJ ?_;unfold Sh.bJ
 have hz:0<(dg B32 x).length:=by
  have:=(not_congr (qN (x:=x))).2 om;show 0<dz x;omega
 refine (Rd.here h).ix (j:=0) rfl hz ?_;rw [qP b2,Nat.pow_zero,Nat.div_one];refine dP (x:=x%B32) (y:=2) rfl rfl dcd ?_;refine rt1 (c:=.bool) _ (Ext.refl _ _) ?_;rw [Bool.eq_iff_iff,decide_eq_true_iff];simp only [beq_iff_eq];have:x%B32%2=x%2:=Nat.mod_mod_of_dvd _ dcd;rw [this];omega
theorem tI{a b:Nat}(ha:a%2=0)(hb:b%2=1):Nat.gcd (a/2) b=Nat.gcd a b:=by
 have h:=Nat.Coprime.gcd_mul_left_cancel (a/2) (qI hb 1);rw [Nat.pow_one,Nat.mul_div_cancel' (Nat.dvd_of_mod_eq_zero ha)] at h;exact h.symm
set_option maxHeartbeats 400000 in
theorem qF{u:Sl}{y:Nat}(hs:Dr w s x)(hu:Dr w u y)(hx:dz x≤1048576)(hy:dz y≤1048576):Ct Pg F.cq [s.v,u.v] w aa [.one .slice] λ(r:Sl) w'=>Dr w' r (Nat.gcd x y):=by
 refine Ct.cq ?_;unfold Sh.cq;have hs:=hs.here;have hu:=hu.here;refine c1 (lG hs) ?_;rintro _ w1 e1 rfl;refine ac (λh=>?_) (λhx0=>?_)
 ·subst h;rw [Nat.gcd_zero_left];exact rt1 (c:=.slice) _ e1 (Rd.at_ (hu.ext e1))
 refine c1 (lG (hu.ext e1)) ?_;rintro _ w2 e2 rfl;have e12:=e1.trans e2;refine ac (λh=>?_) (λhy0=>?_)
 ·subst h;rw [Nat.gcd_zero_right];exact rt1 (c:=.slice) _ e12 (Rd.at_ (hs.ext e12))
 obtain⟨G,hG⟩:∃G,Nat.gcd x y=G:=⟨_,rfl⟩
 have hlim:∀{A k:Nat},A*2^k=x→0<A→k≤33554432:=fun {A k} h h0=>by
  have h1:2^k≤x:=by rw [←h];exact Nat.le_mul_of_pos_left _ h0
  have h2:=rS x;rw [show B32^dz x=2^(32*dz x) by rw [Nat.pow_mul]] at h2;have:=(Nat.pow_lt_pow_iff_right (a:=2) dcd).1 (Nat.lt_of_le_of_lt h1 h2);omega
 refine j3 (λ(a b:Sl)(i:Int) w9=>∃A B k:Nat,i=k∧Dr w9 a A∧Dr w9 b B∧0<A∧0<B∧(A%2=1∨B%2=1)∧Nat.gcd A B*2^k=G∧A≤x∧B≤y∧k≤33554432∧Ext aa w.here w9) ?_ ?_
 ·refine lp3 (λM (a b:Sl) (i:Int) w3=>∃A B k:Nat,i=k∧M=A∧Dr w3 a A∧Dr w3 b B∧0<A∧0<B∧Nat.gcd A B*2^k=G∧A*2^k=x∧A≤x∧B≤y∧Ext aa w.here w3) x ⟨x,y,0,rfl,rfl,hs.ext e12,hu.ext e12,om,om,by simpa using hG,smp,om,om,e12⟩ ?_;rintro M a b i w3 ⟨A,B,k,rfl,rfl,hA,hB,A0,B0,hg,hk,lA,lB,e3⟩;have kl:=hlim hk A0;have dA:dz M≤dz x:=jJ lA;have dB:dz B≤dz y:=jJ lB;refine j1 (λ(z:Bool) w6=>z=decide (M%2=0∧B%2=0)∧Ext aa w3 w6) ?_ ?_
  ·refine c1 (nk hA A0) ?_;rintro _ w4 e4 rfl;refine ac (λh=>?_) (λh=>?_)
   ·refine c1 (nk (hB.ext e4) B0) ?_;rintro _ w5 e5 rfl;exact⟨Dec.eq ⟨λh'=>⟨h,h'⟩,λh'=>h'.2⟩,e4.trans e5⟩
   ·exact⟨by rw [eq_comm,decide_eq_false_iff_not];exact λh'=>h h'.1,e4⟩
  rintro z w6 ⟨rfl,e6⟩;refine ac (λh=>?_) (λh=>?_)
  ·refine c1 (oS (n:=1) (hA.ext e6) om dcd) λs1 w7 e7 h7=>?_
   refine c1 (oS (n:=1) ((hB.ext e6).ext e7) om dcd) λs2 w8 e8 h8=>?_
   rw [Nat.pow_one] at h7 h8;have hg2:Nat.gcd M B=2*Nat.gcd (M/2) (B/2):=by rw [←Nat.gcd_mul_left,Nat.mul_div_cancel' (Nat.dvd_of_mod_eq_zero h.1),Nat.mul_div_cancel' (Nat.dvd_of_mod_eq_zero h.2)]
   refine ab om om ⟨M/2,om,M/2,B/2,k+1,om,rfl,(Dn.ext h7 e8).dr,h8.dr,om,om,?_,?_,om,om,((e3.trans e6).trans e7).trans e8⟩
   ·rw [hg2] at hg;rw [←hg,Nat.pow_succ];grind
   ·rw [←hk,Nat.pow_succ];have:=Nat.mul_div_cancel' (Nat.dvd_of_mod_eq_zero h.1);generalize M/2=z at*;rw [←this];grind
  ·exact⟨M,B,k,rfl,hA.ext e6,hB.ext e6,A0,B0,om,hg,lA,lB,kl,e3.trans e6⟩
 rintro a b i w9 ⟨A,B,k,rfl,hA,hB,A0,B0,hodd,hg,lA,lB,kl,e9⟩;obtain⟨H,hH⟩:∃H,Nat.gcd A B=H:=⟨_,rfl⟩;rw [hH] at hg
 have lim:∀z,z≤max x y→dz z≤1048576:=λz hz=>by
  rcases Nat.le_total x y with h|h
  ·exact Nat.le_trans (jJ (show z≤y by omega)) hy
  ·exact Nat.le_trans (jJ (show z≤x by omega)) hx
 refine j1 (λ(a:Sl) w23=>Dr w23 a H∧H≤max x y∧Ext aa w.here w23) ?_ ?_
 ·refine lp2 (λM (a b:Sl) w10=>∃A B:Nat,M=A+B∧Dr w10 a A∧Dr w10 b B∧0<A∧(A%2=1∨B%2=1)∧Nat.gcd A B=H∧A≤max x y∧B≤max x y∧Ext aa w.here w10) (A+B) ⟨A,B,rfl,hA,hB,A0,hodd,hH,om,om,e9⟩ ?_;clear hA hB A0 B0 hodd hH lA lB e9 hg hlim;rintro M a b w10 ⟨A,B,rfl,hA,hB,A0,hodd,hH,lA,lB,e10⟩;refine c1 (lG hB) ?_;rintro _ w11 e11 rfl;have e11':=e10.trans e11;refine aW (λh=>?_) (λh=>?_)
  ·have B0:0<B:=by
    rcases Nat.eq_zero_or_pos B with h'|h'
    ·subst h';simp at h
    ·exact h'
   refine j1 (λ(a:Sl) w15=>∃A5,Dr w15 a A5∧0<A5∧A5%2=1∧A5≤A∧Nat.gcd A5 B=H∧Ext aa w11 w15) ?_ ?_
   ·refine lp1 (λM (a:Sl) w12=>∃A4,M=A4∧Dr w12 a A4∧0<A4∧(A4%2=1∨B%2=1)∧A4≤A∧Nat.gcd A4 B=H∧Ext aa w11 w12) A ⟨A,rfl,hA.ext e11,A0,hodd,Nat.le_refl _,hH,Ext.refl _ _⟩ ?_;rintro M a w12 ⟨A4,rfl,hA4,A40,ho,lA4,hg4,e12'⟩;refine c1 (nk hA4 A40) ?_;rintro _ w13 e13 rfl;refine ac (λhev=>?_) (λhev=>?_)
    ·refine c1 (oS (n:=1) (hA4.ext e13) (by have:=lim M om;omega) dcd) λs1 w14 e14 h7=>?_
     rw [Nat.pow_one] at h7;exact⟨M/2,om,M/2,rfl,h7.dr,om,.inr om,om,by rw [tI hev om];exact hg4,(e12'.trans e13).trans e14⟩
    ·exact⟨M,hA4.ext e13,A40,om,lA4,hg4,e12'.trans e13⟩
   rintro a w15 ⟨A5,hA5,A50,oA5,lA5,hg5,e15⟩;refine j1 (λ(b:Sl) w19=>∃B5,Dr w19 b B5∧0<B5∧B5%2=1∧B5≤B∧Nat.gcd A5 B5=H∧Ext aa w15 w19) ?_ ?_
   ·refine lp1 (λM (b:Sl) w16=>∃B4,M=B4∧Dr w16 b B4∧0<B4∧B4≤B∧Nat.gcd A5 B4=H∧Ext aa w15 w16) B ⟨B,rfl,(hB.ext e11).ext e15,B0,Nat.le_refl _,hg5,Ext.refl _ _⟩ ?_;rintro M b w16 ⟨B4,rfl,hB4,B40,lB4,hg4,e16⟩;refine c1 (nk hB4 B40) ?_;rintro _ w17 e17 rfl;refine ac (λhev=>?_) (λhev=>?_)
    ·refine c1 (oS (n:=1) (hB4.ext e17) (by have:=lim M om;omega) dcd) λs1 w18 e18 h7=>?_
     rw [Nat.pow_one] at h7;exact⟨M/2,om,M/2,rfl,h7.dr,om,om,by rw [Nat.gcd_comm,tI hev oA5,Nat.gcd_comm];exact hg4,(e16.trans e17).trans e18⟩
    ·exact⟨M,hB4.ext e17,B40,om,lB4,hg4,e16.trans e17⟩
   rintro b w19 ⟨B5,hB5,B50,oB5,lB5,hg6,e19⟩;have hA19:=hA5.ext e19;refine c1 (qG hA19 hB5) ?_;rintro _ w20 e20 rfl;have ee:=((e11'.trans e15).trans e19).trans e20;refine j2 (λ(a b:Sl) w21=>∃A' B',Dr w21 a A'∧Dr w21 b B'∧0<A'∧A'%2=1∧A'≤B'∧B'<A+B∧B'≤max x y∧A'≤max x y∧Nat.gcd A' B'=H∧w21=w20) ?_ ?_
   ·refine ac (λhc=>?_) (λhc=>?_)
    ·have:=pN.1 hc;exact⟨B5,A5,hB5.ext e20,hA19.ext e20,B50,oB5,om,om,om,om,by rw [Nat.gcd_comm];exact hg6,rfl⟩
    ·have:¬B5<A5:=λh'=>hc (pN.2 h')
     exact⟨A5,B5,hA19.ext e20,hB5.ext e20,A50,oA5,om,om,om,om,hg6,rfl⟩
   rintro a b w20 ⟨A',B',hA',hB',A'0,oA',hle,hlt,lB',lA',hg7,rfl⟩;refine c1 (qE hB' hA' (by have:=lim B' lB';omega) hle) λs4 w22 e22 h4=>?_
   exact⟨A'+(B'-A'),om,A',B'-A',rfl,hA'.ext e22,h4.dr,A'0,.inl oA',by rw [Nat.gcd_comm,Nat.gcd_sub_self_left hle,Nat.gcd_comm];exact hg7,lA',om,ee.trans e22⟩
  ·have:B=0:=by simpa using h
   subst this;rw [Nat.gcd_zero_right] at hH;subst hH;exact⟨hA.ext e11,lA,e11'⟩
 rintro a w23 ⟨hA,lH,e23⟩;refine c1 (zH hA (by have:=lim H lH;omega) om) λs5 w24 e24 h5=>?_
 rw [hg,←hG] at h5;exact rt1 (c:=.slice) _ (e23.trans e24) (Dn.dr h5.at)
end
section
variable {n x y:Nat} {t:HL I11} {w:TW}
def jN(n:Nat)(F:FuncId):Prop:=∀{t:HL I11} {w:TW},Ct Pg F [.agg (aX I11 t).toArray] w aa [.one .ptr] λ(p:Option Addr) w'=>∃bs b tab,bs.length=n∧dq w' p bs b∧w.w.heap.size≤b∧(∀c∈bs,w.w.heap.size≤c∧c≠b)∧kE tab∧Tn w' b 0 0 0 tab
theorem fg{Fi:FuncId}(h:jN n Fi){ty:TypeId}:nwv w.here λw1=>cl Pg Fi [.agg (aX I11 t).toArray] w1 [.one .ptr] λ(p:Option Addr) w2=>nwb w2 [.pointer p] ty λb w3=>Rt aa [.one .ptr] (λ(p:Option Addr) w'=>∃bs b tab,bs.length=n+1∧dq w' p bs b∧w.w.heap.size≤b∧(∀c∈bs,w.w.heap.size≤c∧c≠b)∧kE tab∧Tn w' b 0 0 0 tab) w (.pointer (some ⟨b,0,none⟩)) w3:=by
 intro w1 e1;refine c1 (h (t:=t)) ?_;rintro p w2 e2 ⟨bs,b,tab,hlen,hen,hbt,hne,htab,htn⟩;intro c w3 hn;have hlt:=htn.lt;have hc:c=w2.w.heap.size:=hn.at_;have hle:w.w.heap.size≤w1.w.heap.size:=e1.size;have hle2:=e2.size;refine rt1 (c:=.ptr) (some ⟨c,0,none⟩) ((e1.trans e2).trans (hn.ext _)) ⟨c::bs,b,tab,by simp [hlen],?_,om,?_,htab,(htn.ext (hn.ext _)).at⟩
 ·refine⟨rfl,λhV=>?_,p,?_,(hen.ext (hn.ext _)).at⟩
  ·have hV:w3.V c:=hV;rw [hn.V] at hV;have:=w2.lt _ hV;omega
  ·show w3.w.cell? _=_;rw [cell_of_row w3.w c 0 _ ty (0,0) hn.heap];rfl
 ·intro x hx;rcases List.mem_cons.1 hx with rfl|hx
  ·exact⟨om,om⟩
  ·have:=hne x hx;exact⟨om,this.2⟩
theorem wx:jN 3 F.iX:=fun {t w}=>Calls.mono (toom_New (t:=t) (w:=w)) λe w' h=>by
 obtain⟨x,T',h1,h2,h3,d,k,e,b,tab,k1,k2,k3,k4,k5⟩:=h;exact⟨x,T',h1,h2,h3,[d,k,e],b,tab,rfl,k1,k2,k3,k4,k5⟩
theorem yb:jN 4 F.j7:=fun {t w}=>Ct.j7 (fg wx)
theorem xu:jN 5 F.jG:=fun {t w}=>Ct.jG (fg yb)
theorem vH:jN 6 F.jc:=fun {t w}=>Ct.jc (fg xu)
theorem yE:jN 7 F.j9:=fun {t w}=>Ct.j9 (fg vH)
theorem wG:jN 8 F.jC:=fun {t w}=>Ct.jC (fg yE)
theorem vI:jN 9 F.jd:=fun {t w}=>Ct.jd (fg wG)
theorem xY:jN 10 F.j6:=fun {t w}=>Ct.j6 (fg vI)
theorem vK:jN 11 F.je:=fun {t w}=>Ct.je (fg xY)
theorem yz:jN 12 F.j8:=fun {t w}=>Ct.j8 (fg vK)
theorem xi:jN 13 F.jF:=fun {t w}=>Ct.jF (fg yz)
theorem wT:jN 14 F.jE:=fun {t w}=>Ct.jE (fg xi)
theorem jN.mk{F:FuncId}(h:jN n F)(hG:Gl w){K:Option Addr→TW→Prop}(hK:∀p w' bs b tab,Ext aa w w'→bs.length=n→Eg w' p bs b 0 tab→w.w.heap.size≤b→p.isNone=false→K p w')(hn:0<n):cl Pg F [.agg (aX I11 t).toArray] w [.one .ptr] K:=by
 refine c1 (h (t:=t)) ?_;rintro p w' e ⟨bs,b,tab,hl,hc,hb,hne,htab,htn⟩;refine hK p w' bs b tab e hl ⟨hc,λc hc=>(hne c hc).2,htab,hG.ext e,0,0,htn⟩ hb ?_;cases bs with
 | nil=>simp at hl;omega
 | cons x xs=>rw [hc.1];rfl
theorem nw2{s u:Sl}{e:TypeId}(hs:Nt w s x)(hu:Nt w u y){K:Nat→TW→Prop}(hK:∀b w',Rs w' ⟨some ⟨b,0,none⟩,2,2⟩ [x,y]→Ext aa w w'→K b w'):nwb w [s.v,u.v] e K:=
 oW (ss:=[s,u]) (xs:=[x,y]) 2 rfl rfl dcd (λi t ht=>by
  match i,ht with
  | 0,ht=>simp at ht;subst ht;exact hs
  | 1,ht=>simp at ht;subst ht;exact hu) hK
theorem vU{B:Nat}(hx:sz x≤B)(hy:sz y≤B)(i:Nat):sz (([x,y]:List Nat).getD i 0)≤B:=by
 match i with
 | 0=>exact hx
 | 1=>exact hy
 | i+2=>simp [sz,aG]
end
end Go.Proofs.YtpbimnlggalnfaaGreatDoor.Zg
