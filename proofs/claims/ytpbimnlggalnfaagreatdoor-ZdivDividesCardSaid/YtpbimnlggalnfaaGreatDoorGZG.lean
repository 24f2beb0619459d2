/- A part of the proofs of this seat's laws. -/
import Derived.Test.YtpbimnlggalnfaaGreatDoorGP4
import Derived.Test.YtpbimnlggalnfaaGreatDoorGA
import Derived.Test.YtpbimnlggalnfaaGreatDoorGMA
import Derived.Test.YtpbimnlggalnfaaGreatDoorGMB
import Derived.Test.YtpbimnlggalnfaaGreatDoorGMD
import Derived.Test.YtpbimnlggalnfaaGreatDoorGME
import Derived.Test.YtpbimnlggalnfaaGreatDoorGKA
import Derived.Test.YtpbimnlggalnfaaGreatDoorGKE
import Derived.Test.YtpbimnlggalnfaaGreatDoorGIA
import Derived.Test.YtpbimnlggalnfaaGreatDoorGKC
import Derived.Test.YtpbimnlggalnfaaGreatDoorGHA
import Derived.Test.YtpbimnlggalnfaaGreatDoorGB
import Derived.Test.YtpbimnlggalnfaaGreatDoorGIB
import Derived.Test.YtpbimnlggalnfaaGreatDoorGJA
import Derived.Test.YtpbimnlggalnfaaGreatDoorGJB
import Derived.Test.YtpbimnlggalnfaaGreatDoorGJC
import Derived.Test.YtpbimnlggalnfaaGreatDoorGHD
import Derived.Test.YtpbimnlggalnfaaGreatDoorGK
import Derived.Test.YtpbimnlggalnfaaGreatDoorGQ
import Derived.Test.YtpbimnlggalnfaaGreatDoorGMC
import Derived.Test.YtpbimnlggalnfaaGreatDoorGNA
import Derived.Test.YtpbimnlggalnfaaGreatDoorGNB
import Derived.Test.YtpbimnlggalnfaaGreatDoorGNC
import Derived.Test.YtpbimnlggalnfaaGreatDoorGND
import Derived.Test.YtpbimnlggalnfaaGreatDoorGZC
import Derived.Test.YtpbimnlggalnfaaGreatDoorGP
import Derived.Test.YtpbimnlggalnfaaGreatDoorGP1
import Derived.Test.YtpbimnlggalnfaaGreatDoorGP2
import Derived.Test.YtpbimnlggalnfaaGreatDoorGP3
import Derived.Test.YtpbimnlggalnfaaGreatDoorGP5
import Derived.Test.YtpbimnlggalnfaaGreatDoorGS
import Derived.Test.YtpbimnlggalnfaaGreatDoorGC
import Derived.Test.YtpbimnlggalnfaaGreatDoorGZA
import Derived.Test.YtpbimnlggalnfaaGreatDoorGZB
import Derived.Test.YtpbimnlggalnfaaGreatDoorGZD
import Derived.Test.YtpbimnlggalnfaaGreatDoorGZE
set_option linter.unusedVariables false
set_option linter.unusedSimpArgs false
set_option linter.unnecessarySimpa false
namespace Go.Proofs.YtpbimnlggalnfaaGreatDoor.Zg
open Go.RowKit
section
variable {w:TW} {n:Nat}
theorem Rb.hg{s:Sl}{zs:List Int}(h:Rb w s zs n)(i:Nat):bl (zs.getD i 0).natAbs≤64*n:=by
 have h1:=h.szs i;have h2:=uF (zs.getD i 0).natAbs;have:64*sz (zs.getD i 0).natAbs≤64*n:=Nat.mul_le_mul_left _ h1;omega
theorem qd{a:Sl}{zs:List Int}{k:Nat}(ha:Ri w a zs)(hn:n≤65536)(hk:k≤1048576):Ct Pg F.bR [a.v,.int .i64 n,.int .i64 k] w aa [.one .slice,.one .slice] λ(s t:Sl) w'=>∃zs',zs'.length≤n∧Rb w' s zs' k∧Rq (dg B32) w' t (ae zs'):=by
 refine Ct.bR ?_;unfold Sh.bR;refine c1 (vC ha.here om) ?_;rintro s w1 e1 ⟨zs',h1,h2⟩;refine c1 (xU h1 om om) λt w2 e2 h3=>?_
 exact rt2 (c:=.slice) (d:=.slice) _ _ (e1.trans e2) ⟨zs',h2,(h1.ext e2).at,h3.rq.at⟩
theorem sR{t:HL I11}(hG:Gl w){K:Option Addr→TW→Prop}(hK:∀p w' zd zm pz mo hg g po nu ra ro dv rc c m d k e b tab,Ext aa w w'→Eg w' p [zd,zm,pz,mo,hg,g,po,nu,ra,ro,dv,rc,c,m,d,k,e] b 0 tab→w.w.heap.size≤b→p.isNone=false→K p w'):cl Pg F.jx [.agg (aM I11 t).toArray] w [.one .ptr] K:=by
 refine yN.mk hG (λp w' bs b tab e hl hE hb hp=>?_) dcd;match bs,hl with
 | [zd,zm,pz,mo,hg,g,po,nu,ra,ro,dv,rc,c,m,d,k,e'],_=>exact hK p w' _ _ _ _ _ _ _ _ _ _ _ _ _ _ _ _ _ b tab e hE hb hp
theorem wA(hG:Gl w):Ct Pg F.bu [] w aa [.one .bool] λ(r:Bool) _=>r=true:=by
 refine Ct.bu ?_;unfold Sh.bu;refine sR (t:=((0:Int),(0:Int),(0:Int),(0:Int),(0:Int),(0:Int),(0:Int),(0:Int),(0:Int),(0:Int),(0:Int),())) hG.here λp w1 zd zm pz mo hg g po nu ra ro dv rc c m d k e t tab e1 hE ht hp=>?_
 refine ap (by rw [hp]) ?_;have num:∀{v:TW} {n:Int} {KK:Sl→Bool→TW→Prop},-9223372036854775808≤n→n≤9223372036854775807→(∀r r1 v',Ext aa v v'→Io v' v.w.heap.size r r1 n→KK r r1 v')→cl Pg F.gz [.int .i64 n] v [.agg [.slice,.bool]] KK:=λh1 h2 hK=>cl0 (num_Of h1 h2) λr r1 v' e h=>hK r r1 v' e h
 refine num (n:=4) dcd dcd λr r1 w2 e2 hr=>?_
 refine num (n:=-2) dcd dcd λr2 r3 w3 e3 hr2=>?_
 refine sc (hr.iz.ext e3) hr2.iz λb w4 h4 e4=>?_
 have e14:=(e2.trans e3).trans e4;have hE4:=hE.ext e14;have szl:∀z:Int,z.natAbs<W64→sz z.natAbs≤1:=λz hz=>gI hz
 have hQ1:∀x y,sz x≤1→sz y≤1→yC x y:=λx y h1 h2=>⟨om,om⟩
 refine tM hE4.tz (nY (aab wQ) (pw oN) hQ1 dcd (a:=⟨some ⟨b,0,none⟩,2,2⟩) hE4 h4 dcd (λi=>?_) dcd dcd) ?_
 ·match i with
  | 0=>exact szl 4 dcd
  | 1=>exact szl (-2) dcd
  | i+2=>exact szl 0 dcd
 rintro r4 r5 s w5 x5 ⟨hr4,hr5,hs,hE5⟩;have hr4:On w5 w4.w.heap.size r4 2:=hr4;have hr5:r5=true:=hr5;subst hr5;have hsn:s.n=2:=hs.len;intro w6 e6 w7 e7;refine num (n:=0) dcd dcd λr6 r7 w8 e8 hr6=>?_
 refine num (n:=2) dcd dcd λr8 r9 w9 e9 hr8=>?_
 refine sc (hr6.iz.ext e9) hr8.iz λb1 w10 h10 e10=>?_
 refine num (n:=0) dcd dcd λr10 r11 w11 e11 hr10=>?_
 refine num (n:=1) dcd dcd λr12 r13 w12 e12 hr12=>?_
 refine sc (hr10.iz.ext e12) hr12.iz λb2 w13 h13 e13=>?_
 have e1013:=(e11.trans e12).trans e13;have e513:=((((e6.trans e7).trans e8).trans e9).trans e10).trans e1013;have hE13:=hE5.ext e513
 have bx:∀k,bl (xg [0,2] k).natAbs≤2:=λk=>by
  match k with
  | 0=>exact aY dcd
  | 1=>exact aY dcd
  | k+2=>exact (by simp [dX]:bl (0:Int).natAbs≤2)
 refine tM hE13.tz (qJ (QQ:=yC) (ZZ:=1) (DD:=7) (TT:=11) (LB:=15) (YY:=1) (LY:=16) (NN:=34) (adn wQ oN hQ1 dcd dcd) (pw oN) hQ1 ⟨dcd,dcd⟩ (x:=⟨some ⟨b1,0,none⟩,2,2⟩) (y:=⟨some ⟨b2,0,none⟩,2,2⟩) (xs:=[0,2]) (ys:=[0,1]) hE13 (h10.ext e1013) h13 dcd dcd (λk=>Nat.le_trans (bx k) dcd) (λk=>?_) (λi k hk=>Nat.le_trans (aaj bx k) (by simp at hk;omega)) (λi k hk=>Nat.le_trans (sS bx k).2 (by simp at hk;omega)) (λi hi=>by simp at hi;omega) dcd dcd dcd dcd dcd) ?_
 ·match k with
  | 0=>exact aY dcd
  | 1=>exact aY dcd
  | k+2=>exact (by simp [dX]:bl (0:Int).natAbs≤1)
 rintro s2 r14 w14 x14 ⟨-,-,hI,hE14⟩
 have hDst:Dst [0,2]:=λi k hk hi=>by
  simp only [List.length_cons,List.length_nil] at hi;have h1:i=1:=om;have h2:k=0:=om;subst h1;subst h2;decide
 obtain⟨L,cc,hL,hcc,-,hI7⟩:=hI rfl hDst;have h0:cc 0*(-2)=L*0:=hcc 0 dcd;have h1:cc 1*2=L*1:=hcc 1 dcd
 obtain⟨rfl,-⟩:=hI7 λhall=>by
  obtain⟨q,hq⟩:=hall 1;have hq:0+1*cc 0+1*cc 1=L*q:=hq;have h2:L*(1-2*q)=0:=by rw [Int.mul_sub,←Int.mul_assoc,Int.mul_comm L 2,Int.mul_assoc,←hq];omega
  rcases Int.mul_eq_zero.1 h2 with h|h<;>omega
 refine j1 (λ(x:Bool) w17=>x=true∧Ext aa w14 w17) ?_ ?_
 ·have ed:Ext aa w14 w14.drew:=(Ext.refl _ _).drew;refine num (n:=-2) dcd dcd λr15 r16 w15 e15 hr15=>?_
  have hr4':=((hr4.ext e513).extT hE13.tz x14).ext (ed.trans e15);refine c1 (abc (x:=2) (y:=2) hr4' hr15.1 rfl hr15.2.symm) ?_;rintro ok w16 e16 rfl;refine aQ rfl (aQ (by rw [hsn];rfl) ?_);exact⟨rfl,(ed.trans e15).trans e16⟩
 rintro x w17 ⟨rfl,e17⟩;refine rt1 (c:=.bool) true ?_ rfl;have y:=(x5.trans e513.any).trans (x14.trans e17.any);exact (e1.trans e14).own y λc hc=>by subst hc;exact Nat.le_trans ht (Nat.le_refl _)
theorem acW(hG:Gl w){K:Bool→TW→Prop}(hK:∀w',Ext aa w w'→K true w'):cl Pg F.bu [] w [.one .bool] K:=by
 refine c1 (wA hG) ?_;rintro r w' e rfl;exact hK w' e
end
end Go.Proofs.YtpbimnlggalnfaaGreatDoor.Zg
