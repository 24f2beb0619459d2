/- A part of the proofs of this seat's laws. -/
import Derived.Test.YtpbimnlggalnfaaGreatDoorGKA
import Derived.Test.YtpbimnlggalnfaaGreatDoorGKC
import Derived.Test.YtpbimnlggalnfaaGreatDoorGA
import Derived.Test.YtpbimnlggalnfaaGreatDoorGB
import Derived.Test.YtpbimnlggalnfaaGreatDoorGK
import Derived.Test.YtpbimnlggalnfaaGreatDoorGQ
import Derived.Test.YtpbimnlggalnfaaGreatDoorGP
import Derived.Test.YtpbimnlggalnfaaGreatDoorGP1
import Derived.Test.YtpbimnlggalnfaaGreatDoorGP3
import Derived.Test.YtpbimnlggalnfaaGreatDoorGP4
import Derived.Test.YtpbimnlggalnfaaGreatDoorGS
import Derived.Test.YtpbimnlggalnfaaGreatDoorGC
set_option linter.unusedVariables false
set_option linter.unusedSimpArgs false
set_option linter.unnecessarySimpa false
namespace Go.Proofs.YtpbimnlggalnfaaGreatDoor.Zg
open Go.RowKit
theorem ch3{w:TW}{p:Option Addr}{d k e t:Nat}(h:bT w p [d,k,e] t){K:Addr→Prop}(hK:K ⟨t,0,none⟩):nck p λa2=>ldc (.ptr) w a2 λ(v:Option Addr)=>nck v λa3=>ldc (.ptr) w a3 λ(v1:Option Addr)=>nck v1 λa4=>ldc (.ptr) w a4 λ(v2:Option Addr)=>nck v2 K:=by
 obtain⟨rfl,_,q,h3,h4⟩:=h;exact ah ⟨q,h3,ch2 h4 hK⟩
section
variable {w:TW} {a b s t u:Sl} {x y z:Nat} {e:TypeId} {K:Nat→TW→Prop}
theorem toom_part{l:List Nat}{f t:Nat}(ha:Rd w a l)(hft:f<l.length→f≤t):Ct Pg F.iP [a.v,.int .i64 f,.int .i64 t] w aa [.one .slice] λ(s':Sl) w'=>Nt w' s' (vl W64 l/W64^f%W64^(t-f)):=by
 refine Ct.iP ?_;unfold Sh.iP;have na:=ha.len;have hc:=ha.rv.2.1
 have hv:vl W64 ((l.take t).drop f)=vl W64 l/W64^f%W64^(t-f):=by
  rw [List.drop_take,(bQ (ha.sm.drop f) (t-f)).2,(bQ ha.sm f).1]
 refine ac (λh=>?_) (λh=>?_)
 ·refine rt1 (c:=.slice) Sl.nil (Ext.refl _ _) ?_;rw [←hv,List.drop_of_length_le (by simp;omega)];exact Nt.nil _
 ·have hft:=hft om;refine ag (y:=((min t l.length:Nat):Int)) (by split<;>omega) ?_;refine⟨om,om,om,?_⟩;rw [Int.toNat_natCast,Int.toNat_natCast];have hcut:=ha.here.cut (lo:=f) (hi:=min t l.length) om om;rw [show l.take (min t l.length)=l.take t by rw [List.take_eq_take_iff];omega] at hcut;have:=hcut.nt;rw [hv] at this;exact rt1 (c:=.slice) _ (Ext.refl _ _) this.at
theorem toom_less(ha:Nt w a x)(hb:Nt w b y)(hx:sz x≤1099511627776)(hy:sz y≤1099511627776):Ct Pg F.jI [a.v,b.v] w aa [.agg [.slice,.bool]] λ(s':Sl)(neg:Bool) w'=>On w' w.w.heap.size s' (if y≤x then x-y else y-x)∧neg=decide (¬y≤x):=by
 refine Ct.jI ?_;unfold Sh.jI;intro w1 e1;refine c2 (limb_Sub (ha.here.ext e1) (hb.here.ext e1) hx) ?_;rintro s ok w2 e2 ⟨rfl,h2⟩;by_cases h:y≤x
 ·refine aQ (by simp [h]) ?_;intro w3 e3;refine⟨(s,false,()),rfl,(e1.trans e2).trans e3,?_,by simp [h]⟩;rw [if_pos h];exact On.at (On.less (On.ext h2 e3) e1.size)
 ·refine ap (by simp [h]) (c2 (limb_Sub ((hb.here.ext e1).ext e2) ((ha.here.ext e1).ext e2) hy) ?_);rintro s ok w3 e3 ⟨-,h3⟩;intro w4 e4;refine⟨(s,true,()),rfl,((e1.trans e2).trans e3).trans e4,?_,by simp [h]⟩;rw [if_neg h];exact On.at (On.less (On.ext h3 e4) (e1.trans e2).size)
theorem toom_wide{n:Nat}(ha:Nt w a x)(hx:sz x≤n)(hn:n≤1099511627776):Ct Pg F.cm [a.v,.int .i64 n] w aa [.one .slice] λ(s':Sl) w'=>Ow w' w.w.heap.size s' (pc (dg W64 x) 0 n):=by
 obtain⟨l,ha,rfl⟩:=ha;refine Ct.cm ?_;unfold Sh.cm;have hl:=df ha.sm;have na:=ha.len;have hc:=ha.rv.2.1;refine bW (N:=n) rfl om λs w1 h1 hs1 e1 _=>?_
 refine c1 (api_Nat_Len (ha.here.ext e1)) ?_;rintro r w2 e2 rfl;refine⟨dcd,om,om,?_⟩;rw [Int.toNat_natCast];have hcut:=((ha.here.ext e1).ext e2).trim;have h1:=h1.ext e2;refine h1.cpy hcut (by rw [aA];simpa using hx) λw3 h3 e3=>rt1 (c:=.slice) _ ((e1.trans e2).own e3 h1.blk_le) ?_
 rw [List.drop_replicate] at h3;rw [pc,List.drop_zero,List.take_of_length_le (by rw [aA];exact hx)];exact h3.at
theorem toom_sub{l:Sl}{xs:List Nat}(ha:Nt w a x)(hl:Rs w l xs)(hx:sz x≤1099511627776)(hn:xs.length≤1048576)(hs:∀t,sz (xs.getD t 0)≤549755813888):Ct Pg F.i7 [a.v,l.v] w aa [.one .slice] λ(s':Sl) w'=>On w' w.w.heap.size s' (x-xs.sum):=by
 refine Ct.i7 ?_;unfold Sh.i7;refine c1 (limb_Sum hl.here hn hs) λs w1 e1 h1=>?_
 refine c2 (limb_Sub (ha.here.ext e1) h1.nt hx) ?_;rintro s' ok w2 e2 ⟨-,h2⟩;exact rt1 (c:=.slice) _ (e1.trans e2) (On.at (On.less h2 e1.size))
theorem toom_sub2(ha:Nt w a x)(hb:Nt w b y)(hx:sz x≤1099511627776):Ct Pg F.jH [a.v,b.v] w aa [.one .slice] λ(s':Sl) w'=>On w' w.w.heap.size s' (x-y):=by
 refine Ct.jH ?_;unfold Sh.jH;refine c2 (limb_Sub ha.here hb.here hx) ?_;rintro s' ok w2 e2 ⟨-,h2⟩;exact rt1 (c:=.slice) _ e2 (On.at h2)
theorem rs1(h:Nt w s x)(hK:∀b w',Rs w' ⟨some ⟨b,0,none⟩,1,1⟩ [x]→Ext aa w w'→K b w'):nwb w [s.v] e K:=
 qw (ss:=[s]) (xs:=[x]) 1 rfl rfl dcd (λi t hi=>by
  rcases i with _|i<;>simp at hi;subst hi;exact h) hK
theorem rs2(h:Nt w s x)(h2:Nt w t y)(hK:∀b w',Rs w' ⟨some ⟨b,0,none⟩,2,2⟩ [x,y]→Ext aa w w'→K b w'):nwb w [s.v,t.v] e K:=
 qw (ss:=[s,t]) (xs:=[x,y]) 2 rfl rfl dcd (λi o hi=>by
  rcases i with _|_|i<;>simp at hi<;>subst hi
  ·exact h
  ·exact h2) hK
theorem rs3(h:Nt w s x)(h2:Nt w t y)(h3:Nt w u z)(hK:∀b w',Rs w' ⟨some ⟨b,0,none⟩,3,3⟩ [x,y,z]→Ext aa w w'→K b w'):nwb w [s.v,t.v,u.v] e K:=
 qw (ss:=[s,t,u]) (xs:=[x,y,z]) 3 rfl rfl dcd (λi o hi=>by
  rcases i with _|_|_|i<;>simp at hi<;>subst hi
  ·exact h
  ·exact h2
  ·exact h3) hK
theorem rs5{p q:Sl}{v o:Nat}(h:Nt w s x)(h2:Nt w t y)(h3:Nt w u z)(h4:Nt w p v)(h5:Nt w q o)(hK:∀b w',Rs w' ⟨some ⟨b,0,none⟩,5,5⟩ [x,y,z,v,o]→Ext aa w w'→K b w'):nwb w [s.v,t.v,u.v,p.v,q.v] e K:=
 qw (ss:=[s,t,u,p,q]) (xs:=[x,y,z,v,o]) 5 rfl rfl dcd (λi o hi=>by
  rcases i with _|_|_|_|_|i<;>simp at hi<;>subst hi
  ·exact h
  ·exact h2
  ·exact h3
  ·exact h4
  ·exact h5) hK
theorem mV{k:Nat}:∀{xs:List Nat},(∀x∈xs,sz x≤k)→∀t,sz (xs.getD t 0)≤k:=fun {xs} h t=>by
 by_cases ht:t<xs.length
 ·simp only [List.getD_eq_getElem?_getD,List.getElem?_eq_getElem ht,Option.getD_some];exact h _ (List.getElem_mem ht)
 ·rw [jF om,sz0];omega
theorem toom_joined{r0 r1 rm r2 ri:Sl}{neg:Bool}{k:Int}{m c0 c1' c2' c3' c4:Nat}(h0:Nt w r0 c0)(h1:Nt w r1 (c0+c1'+c2'+c3'+c4))(hm:Nt w rm m)(h2:Nt w r2 (c0+2*c1'+4*c2'+8*c3'+16*c4))(h4:Nt w ri c4)(hn0:neg=false→m+(c1'+c3')=c0+c2'+c4)(hn1:neg=true→m+(c0+c2'+c4)=c1'+c3')(hs:sz (c0+2*c1'+4*c2'+8*c3'+16*c4)≤1048576):
  Ct Pg F.iQ [.int .i64 k,r0.v,r1.v,rm.v,r2.v,ri.v,.bool neg] w aa [.one .slice] λ(s':Sl) w'=>On w' w.w.heap.size s' (vl (W64^min k.toNat 16384) [c0,c1',c2',c3',c4]):=by
 refine Ct.iQ ?_;unfold Sh.iQ;obtain⟨Z,hZ⟩:∃Z,c0+2*c1'+4*c2'+8*c3'+16*c4=Z:=⟨_,rfl⟩;rw [hZ] at hs h2;have small:∀{x:Nat},x≤Z+Z→sz x≤1048577:=fun {x} hx=>by have:=aq hx;have:=kI Z Z;omega
 have hmb:m≤Z:=by
  cases neg with
  | false=>have:=hn0 rfl;omega
  | true=>have:=hn1 rfl;omega
 refine c1 (limb_Add h1.here hm.here (Nat.le_trans (small om) dcd) (Nat.le_trans (small om) dcd)) λs w1 e1 g1=>?_
 refine c1 (toom_sub2 (h1.here.ext e1) (hm.here.ext e1) (Nat.le_trans (small om) dcd)) λs1 w2 e2 g2=>?_
 have e12:=e1.trans e2;refine j2 (λ(ev od:Sl) w3=>Nt w3 ev (2*(c0+c2'+c4))∧Nt w3 od (2*(c1'+c3'))∧Ext aa w.here w3) ?_ ?_
 ·cases neg with
  | false=>
   have:=hn0 rfl;refine ap rfl ⟨?_,?_,e12⟩
   ·have g:=(On.nt g1).ext e2;rwa [show c0+c1'+c2'+c3'+c4+m=2*(c0+c2'+c4) by omega] at g
   ·have g:=On.nt g2;rwa [show c0+c1'+c2'+c3'+c4-m=2*(c1'+c3') by omega] at g
  | true=>
   have:=hn1 rfl;refine aQ rfl ⟨?_,?_,e12⟩
   ·have g:=On.nt g2;rwa [show c0+c1'+c2'+c3'+c4-m=2*(c0+c2'+c4) by omega] at g
   ·have g:=(On.nt g1).ext e2;rwa [show c0+c1'+c2'+c3'+c4+m=2*(c1'+c3') by omega] at g
 rintro ev od w3 ⟨hev,hod,e3⟩
 have p1:∀x:Nat,2*x/2^min ((1:Int).toNat) 1048576=x:=λx=>by
  rw [show min ((1:Int).toNat) 1048576=1 from rfl];omega
 refine c1 (limb_Shr (n:=1) hev (Nat.le_trans (small om) dcd)) λsE w4 e4 gE=>?_
 refine c1 (limb_Shr (n:=1) (hod.ext e4) (Nat.le_trans (small om) dcd)) λsO w5 e5 gO=>?_
 rw [p1] at gE gO;have e35:=(e3.trans e4).trans e5;have gE:=(On.nt gE).ext e5;have gO:=On.nt gO;have q0:=h0.here.ext e35;have q4:=h4.here.ext e35;have q2:=h2.here.ext e35;clear g1 g2 hev hod e4 e5 e3 e1 e2 e12;refine rs2 q0 q4 λb w6 hr e6=>?_
 refine c1 (toom_sub (l:=⟨some ⟨b,0,none⟩,2,2⟩) (gE.ext e6) hr (Nat.le_trans (small om) dcd) smp (mV λx hx=>?_)) λsC w7 e7 gC=>?_
 ·simp only [List.mem_cons,List.not_mem_nil,or_false] at hx;rcases hx with rfl|rfl
  ·exact Nat.le_trans (small om) dcd
  ·exact Nat.le_trans (small om) dcd
 have hc2:c0+c2'+c4 - [c0,c4].sum=c2':=by simp;omega
 rw [hc2] at gC;have e67:=e6.trans e7;have gC:=On.nt gC;have gO:=gO.ext e67;have q0:=q0.ext e67;have q4:=q4.ext e67;have q2:=q2.ext e67;have f7:=e35.trans e67;clear hr gE e6 e7;refine c1 (limb_Shl (n:=2) gC (Nat.le_trans (small om) dcd)) λs5 w8 e8 g8=>?_
 refine c1 (limb_Shl (n:=4) (q4.ext e8) (Nat.le_trans (small om) dcd)) λs6 w9 e9 g9=>?_
 rw [show c2'*2^min ((2:Int).toNat) 1048576=4*c2' by rw [show min ((2:Int).toNat) 1048576=2 from rfl];omega] at g8;rw [show c4*2^min ((4:Int).toNat) 1048576=16*c4 by rw [show min ((4:Int).toNat) 1048576=4 from rfl];omega] at g9;have e89:=e8.trans e9;refine rs3 (q0.ext e89) ((On.nt g8).ext e9) (On.nt g9) λb1 w10 hr e10=>?_
 have ea:=e89.trans e10;refine c1 (toom_sub (l:=⟨some ⟨b1,0,none⟩,3,3⟩) (q2.ext ea) hr (Nat.le_trans hs dcd) smp (mV λx hx=>?_)) λs7 w11 e11 g11=>?_
 ·simp only [List.mem_cons,List.not_mem_nil,or_false] at hx;rcases hx with rfl|rfl|rfl
  ·exact Nat.le_trans (small om) dcd
  ·exact Nat.le_trans (small om) dcd
  ·exact Nat.le_trans (small om) dcd
 have hx1:Z - [c0,4*c2',16*c4].sum=2*(c1'+4*c3'):=by simp;omega
 rw [hx1] at g11;refine c1 (limb_Shr (n:=1) (On.nt g11) (Nat.le_trans (small om) dcd)) λs8 w12 e12 g12=>?_
 rw [p1] at g12;have eb:=(ea.trans e11).trans e12;have gO:=gO.ext eb;refine rs1 gO λb2 w13 hr2 e13=>?_
 refine c1 (toom_sub (l:=⟨some ⟨b2,0,none⟩,1,1⟩) ((On.nt g12).ext e13) hr2 (Nat.le_trans (small om) dcd) smp (mV λx hx=>?_)) λs9 w14 e14 g14=>?_
 ·simp only [List.mem_cons,List.not_mem_nil,or_false] at hx;subst hx;exact Nat.le_trans (small om) dcd
 have hx2:c1'+4*c3' - [c1'+c3'].sum=3*c3':=by simp;omega
 rw [hx2] at g14;refine c2 (toom_Third (On.nt g14) (Nat.le_trans (small om) dcd)) ?_;rintro s10 ok w15 e15 ⟨g15,-⟩;rw [if_pos om,show 3*c3'/3=c3' by omega] at g15;have ec:=(e13.trans e14).trans e15;refine rs1 (On.nt g15) λb3 w16 hr3 e16=>?_
 refine c1 (toom_sub (l:=⟨some ⟨b3,0,none⟩,1,1⟩) ((gO.ext ec).ext e16) hr3 (Nat.le_trans (small om) dcd) smp (mV λx hx=>?_)) λs11 w17 e17 g17=>?_
 ·simp only [List.mem_cons,List.not_mem_nil,or_false] at hx;subst hx;exact Nat.le_trans (small om) dcd
 have hx3:c1'+c3' - [c3'].sum=c1':=smp;rw [hx3] at g17;have ed:=(eb.trans ec).trans (e16.trans e17);refine rs5 (q0.ext ed) (On.nt g17) (gC.ext ed) ((On.nt g15).ext (e16.trans e17)) (q4.ext ed) λb4 w18 hr5 e18=>?_
 refine c1 (limb_Join (s:=⟨some ⟨b4,0,none⟩,5,5⟩) (k:=k) hr5 smp (mV λx hx=>?_)) λs12 w19 e19 g19=>?_
 ·simp only [List.mem_cons,List.not_mem_nil,or_false] at hx;rcases hx with rfl|rfl|rfl|rfl|rfl<;>exact Nat.le_trans (small om) dcd
 have ee:=(f7.trans ed).trans e18;exact rt1 (c:=.slice) _ (ee.trans e19) (On.at (On.less g19 ee.size))
end
section
variable {A n:Nat}
def T0(A k:Nat):Nat:=A%W64^k
def T1(A k:Nat):Nat:=A/W64^k%W64^k
def T2(A k:Nat):Nat:=A/W64^(2*k)
theorem abX(A k:Nat):A=T0 A k+W64^k*(T1 A k+W64^k*T2 A k):=by
 unfold T0 T1 T2;have h1:=Nat.div_add_mod A (W64^k);have h2:=Nat.div_add_mod (A/W64^k) (W64^k);rw [Nat.div_div_eq_div_mul,←Nat.pow_add,←Nat.two_mul] at h2;rw [Nat.add_comm (A/W64^k%W64^k),h2,Nat.add_comm,h1]
theorem aei(A k:Nat):T0 A k<W64^k:=Nat.mod_lt _ (Nat.pow_pos dcd)
theorem aeh(A k:Nat):T1 A k<W64^k:=Nat.mod_lt _ (Nat.pow_pos dcd)
theorem abY{k:Nat}(h:A<W64^n)(hk:2*k≤n):T2 A k<W64^(n-2*k):=by
 unfold T2;rw [Nat.div_lt_iff_lt_mul (Nat.pow_pos dcd),←Nat.pow_add,Nat.sub_add_cancel hk];exact h
theorem aeE(A k:Nat):T0 A k≤A∧T1 A k≤A∧T2 A k≤A:=⟨Nat.mod_le _ _,Nat.le_trans (Nat.mod_le _ _) (Nat.div_le_self _ _),Nat.div_le_self _ _⟩
theorem toom_Points{w:TW}{a:Sl}{k:Int}(ha:Nt w a A)(hA:sz A≤1048576)(hn:n=max 1 (min k.toNat 16384)):Ct Pg F.ic [a.v,.int .i64 k] w aa [.agg [.slice,.bool],.agg [.slice,.bool],.agg [.slice,.bool],.agg [.slice,.bool],.agg [.slice,.bool]] λ(r1:Sl)(b1:Bool)(r3:Sl)(b3:Bool)(r5:Sl)(b5:Bool)(r7:Sl)(b7:Bool)(r9:Sl)(b9:Bool) w'=>
  On w' w.w.heap.size r1 (T0 A n)∧b1=false∧On w' w.w.heap.size r3 (T0 A n+T2 A n+T1 A n)∧b3=false∧On w' w.w.heap.size r5 (if T1 A n≤T0 A n+T2 A n then T0 A n+T2 A n-T1 A n else T1 A n-(T0 A n+T2 A n))∧b5=decide (¬T1 A n≤T0 A n+T2 A n)∧On w' w.w.heap.size r7 (T0 A n+2*T1 A n+4*T2 A n)∧b7=false∧On w' w.w.heap.size r9 (T2 A n)∧b9=false:=by
 refine Ct.ic ?_;unfold Sh.ic;intro w1 e1 w2 e2 w3 e3 w4 e4 w5 e5;have f5:=(((e1.trans e2).trans e3).trans e4).trans e5;clear e1 e2 e3 e4 e5;refine fV (ag (y:=(n:Int)) (by split<;>split<;>omega) ?_);obtain⟨k0,k1,k2⟩:=aeE A n;have zz:=kI A A;refine c1 (limb_Norm (ha.here.ext f5) om) λs w6 e6 h6=>?_
 have hsl:=h6.len;have hDl:(dg W64 A).length=sz A:=rfl;refine c1 (toom_part (f:=0) (t:=n) (Ow.rd h6) om) λs1 w7 e7 h7=>?_
 refine ab om om ?_;refine c1 (toom_part (f:=n) (t:=2*n) ((Ow.rd h6).ext e7) om) λs2 w8 e8 h8=>?_
 refine ab om om ?_;rw [hsl];refine c1 (toom_part (f:=2*n) (t:=sz A) (((Ow.rd h6).ext e7).ext e8) om) λs3 w9 e9 h9=>?_
 have e79:=(e7.trans e8).trans e9
 have h7:Nt w9 s1 (T0 A n):=by
  have:=(h7.ext e8).ext e9;rwa [aV W2,Nat.pow_zero,Nat.div_one,Nat.sub_zero] at this
 have h8:Nt w9 s2 (T1 A n):=by
  have:=h8.ext e9;rwa [aV W2,show 2*n-n=n by omega] at this
 have h9:Nt w9 s3 (T2 A n):=by
  rw [aV W2] at h9
  have:A/W64^(2*n)%W64^(sz A-2*n)=T2 A n:=by
   refine Nat.mod_eq_of_lt ?_;by_cases h:2*n≤sz A
   ·exact abY (gN A) h
   ·have:A<W64^(2*n):=lK om;rw [Nat.div_eq_of_lt this];exact Nat.pow_pos dcd
  rwa [this] at h9
 have f9:=(f5.trans e6).trans e79;clear e6 e7 e8 e9 h6 e79 f5;generalize T0 A n=A0 at*;generalize T1 A n=A1 at*;generalize T2 A n=A2 at*;have small:∀{x:Nat},x≤A+A→sz x≤1048577:=fun {x} hx=>by have:=aq hx;omega
 have l0:sz A0≤1099511627776:=Nat.le_trans (small om) dcd;have l1:sz A1≤1099511627776:=Nat.le_trans (small om) dcd;have l2:sz A2≤1099511627776:=Nat.le_trans (small om) dcd;have l02:sz (A0+A2)≤1099511627776:=Nat.le_trans (small om) dcd;refine c1 (limb_Add h7 h9 l0 l2) λs4 w10 e10 g4=>?_
 refine c1 (limb_Norm (h7.ext e10) l0) λs5 w11 e11 g5=>?_
 intro w12 e12;have ea:=(e10.trans e11).trans e12;have g4:=((On.nt g4).ext e11).ext e12;refine c1 (limb_Add g4 (h8.ext ea) l02 l1) λs6 w13 e13 g6=>?_
 intro w14 e14;have eb:=(ea.trans e13).trans e14;refine cl0 (toom_less ((g4.ext e13).ext e14) (h8.ext eb) l02 l1) ?_;intro r r1 w15 e15 hr;obtain⟨gr,hr1⟩:=hr;intro w16 e16;have ec:=(eb.trans e15).trans e16;refine c1 (limb_Shl (n:=1) (h8.ext ec) l1) λs7 w17 e17 g7=>?_
 refine c1 (limb_Shl (n:=2) ((h9.ext ec).ext e17) l2) λs8 w18 e18 g8=>?_
 rw [show A1*2^min ((1:Int).toNat) 1048576=2*A1 by rw [show min ((1:Int).toNat) 1048576=1 from rfl];omega] at g7;rw [show A2*2^min ((2:Int).toNat) 1048576=4*A2 by rw [show min ((2:Int).toNat) 1048576=2 from rfl];omega] at g8;have ed:=(ec.trans e17).trans e18;refine rs3 (h7.ext ed) ((On.nt g7).ext e18) (On.nt g8) λb w19 hr3 e19=>?_
 have m1:=dt 2 A1;have m2:=dt 4 A2;have v2:=gI (x:=2) dcd;have v4:=gI (x:=4) dcd;refine c1 (limb_Sum (s:=⟨some ⟨b,0,none⟩,3,3⟩) hr3 smp (mV λx hx=>?_)) λs9 w20 e20 g9=>?_
 ·have y0:sz A0≤1048577:=small om;have y1:sz A1≤1048577:=small om;have y2:sz A2≤1048577:=small om;simp only [List.mem_cons,List.not_mem_nil,or_false] at hx;rcases hx with rfl|rfl|rfl<;>omega
 rw [show [A0,2*A1,4*A2].sum=A0+2*A1+4*A2 by simp;omega] at g9;intro w21 e21;have ee:=((ed.trans e19).trans e20).trans e21;refine c1 (limb_Norm (h9.ext ee) l2) λs10 w22 e22 g10=>?_
 intro w23 e23 w24 e24 w25 e25 w26 e26 w27 e27 w28 e28;have eL:=((((e23.drew.trans e24).trans e25).trans e26).trans e27).trans e28;have eM:=(e21.trans e22).trans eL;have eN:=((e17.trans e18).trans (e19.trans e20)).trans eM;refine⟨(s5,false,s6,false,r,r1,s9,false,s10,false,()),rfl,(f9.trans ee).trans (e22.trans eL),?_,rfl,?_,rfl,?_,hr1,?_,rfl,?_,rfl⟩
 ·exact On.at (On.less ((((On.ext g5 e12).ext (e13.trans e14)).ext (e15.trans e16)).ext eN) (f9.trans e10).size)
 ·exact On.at (On.less (((On.ext g6 e14).ext (e15.trans e16)).ext eN) (f9.trans ea).size)
 ·exact On.at (On.less ((On.ext gr e16).ext eN) (f9.trans eb).size)
 ·exact On.at (On.less (On.ext g9 eM) ((f9.trans ed).trans e19).size)
 ·exact On.at (On.less (On.ext g10 eL) (f9.trans ee).size)
end
theorem yR{P A1 Q B1 m E O:Nat}{x y:Bool}(hx:x=decide (¬A1≤P))(hy:y=decide (¬B1≤Q))(hm:m=(if A1≤P then P-A1 else A1-P)*(if B1≤Q then Q-B1 else B1-Q))(hE:E=P*Q+A1*B1)(hO:O=P*B1+A1*Q):
  ((!(x == y))=false→m+O=E)∧((!(x == y))=true→m+E=O):=by
 subst hx hy hm hE hO;by_cases h1:A1≤P
 ·obtain⟨u,rfl⟩:=Nat.le.dest h1;by_cases h2:B1≤Q
  ·obtain⟨v,rfl⟩:=Nat.le.dest h2;rw [if_pos h1,if_pos h2,Nat.add_sub_cancel_left,Nat.add_sub_cancel_left];simp [h1,h2];grind
  ·obtain⟨v,rfl⟩:=Nat.le.dest (show Q≤B1 by omega);rw [if_pos h1,if_neg h2,Nat.add_sub_cancel_left,Nat.add_sub_cancel_left];simp [h1,h2];grind
 ·obtain⟨u,rfl⟩:=Nat.le.dest (show P≤A1 by omega);by_cases h2:B1≤Q
  ·obtain⟨v,rfl⟩:=Nat.le.dest h2;rw [if_neg h1,if_pos h2,Nat.add_sub_cancel_left,Nat.add_sub_cancel_left];simp [h1,h2];grind
  ·obtain⟨v,rfl⟩:=Nat.le.dest (show Q≤B1 by omega);rw [if_neg h1,if_neg h2,Nat.add_sub_cancel_left,Nat.add_sub_cancel_left];simp [h1,h2];grind
theorem rN{A k N:Nat}(hA:sz A≤N)(hk:N≤3*k)(h2:2*k≤N):sz (T0 A k)≤k∧sz (T0 A k+T2 A k+T1 A k)≤k+1∧sz (if T1 A k≤T0 A k+T2 A k then T0 A k+T2 A k-T1 A k else T1 A k-(T0 A k+T2 A k))≤k+1∧sz (T0 A k+2*T1 A k+4*T2 A k)≤k+1∧sz (T2 A k)≤N-2*k:=by
 have h0:=aei A k;have h1:=aeh A k;have h3:=abY (lK hA) h2;have s0:=cQ h0;have h4:W64^(N-2*k)≤W64^k:=Nat.pow_le_pow_right dcd om;have h5:8*W64^k≤W64^(k+1):=by rw [Nat.pow_succ,Nat.mul_comm];exact Nat.mul_le_mul_left _ dcd
 generalize T0 A k=A0 at*;generalize T1 A k=A1 at*;generalize T2 A k=A2 at*;generalize W64^k=p at*;refine⟨s0,cQ ?_,cQ ?_,cQ ?_,cQ h3⟩
 ·omega
 ·split<;>omega
 ·omega
theorem lC{f:Value}{t:Nat}{tab:List Int}{Y:Nat→Prop}{σ:Type}{St:σ→TW→Prop}{L:Int→Nat→Nat→Prop}{Q:σ→Int→Int→Int→Nat→Nat→σ→Int→Int→Prop}(hI:In2 f t tab Y St L Q){w:TW}{s:σ}{m now deep:Int}{a b:Sl}{x y n n' B:Nat}(hm:Tn w t m now deep tab)(hS:St s w)(ha:Nt w a x)(hb:Nt w b y)(hx:sz x≤n)(hy:sz y≤n')(hn:n≤1048576)(hn':n'≤1048576)(hT:∀c,(c=t∨Y c)→c<B)(hB:B≤w.w.heap.size)(hL:L now n n'){K:Sl→TW→Prop}(hK:∀o w' s' m' d',Ext (λk=>k=t∨Y k) w w'→On w' w.w.heap.size o (x*y)→Tn w' t m' now d' tab→St s' w'→Q s m now deep n n' s' m' d'→K o w'):
  cl Pg F.cm [a.v,.int .i64 n] w [.one .slice] λs1 w1=>cl Pg F.cm [b.v,.int .i64 n'] w1 [.one .slice] λs2 w2=>clv Pg f [s1.v,s2.v] w2 [.one .slice] K:=by
 refine c1 (toom_wide ha hx om) λs1 w1 e1 h1=>c1 (toom_wide (hb.ext e1) hy om) λs2 w2 e2 h2=>?_
 have e12:=e1.trans e2;have h1:=h1.ext e2
 have far:∀{w':TW} {C:Nat} {o:Sl} {l:List Nat},Ow w' C o l→B≤C→∀c,o.blk=some c→c≠t∧¬Y c:=λh hC c hc=>by
  have:=h.blk_le c hc;exact⟨λh'=>by have:=hT c (.inl h');omega,λh'=>by have:=hT c (.inr h');omega⟩
 have z1:=e1.size;refine hI.call (hm.ext e12) (hI.stay hS e12.any) h1.rd h2.rd (far h1 hB) (far h2 om) (by rw [j9,j9];exact hL) λo w' s' m' d' x' ho hm' hS' hQ=>?_
 rw [j9,j9] at hQ;rw [rY hx,rY hy] at ho;exact hK o w' s' m' d' (e12.any.trans x') (On.less ho e12.size) hm' hS' hQ
theorem aeg(A B k:Nat):vl (W64^k) [T0 A k*T0 B k,T0 A k*T1 B k+T1 A k*T0 B k,T0 A k*T2 B k+T1 A k*T1 B k+T2 A k*T0 B k,T1 A k*T2 B k+T2 A k*T1 B k,T2 A k*T2 B k]=A*B:=by
 have hA:=abX A k;have hB:=abX B k;generalize T0 A k=A0 at*;generalize T1 A k=A1 at*;generalize T2 A k=A2 at*;generalize T0 B k=B0 at*;generalize T1 B k=B1 at*;generalize T2 B k=B2 at*;rw [hA,hB];simp only [vl,Nat.mul_zero,Nat.add_zero];generalize W64^k=p;grind
set_option maxHeartbeats 800000 in
theorem yS{w:TW}{p:Option Addr}{d k e t:Nat}{m now deep:Int}{tab:List Int}{f:Value}{Y:Nat→Prop}{σ:Type}{St:σ→TW→Prop}{L:Int→Nat→Nat→Prop}{Q:σ→Int→Int→Int→Nat→Nat→σ→Int→Int→Prop}{s0:σ}{a b:Sl}{la lb:List Nat}(hI:In2 f t tab Y St L Q)(hc:bT w p [d,k,e] t)(hne:∀c∈[d,k,e],c≠t∧¬Y c)(hm:Tn w t m now deep tab)(hS:St s0 w)(ha:Rd w a la)(hb:Rd w b lb)(hat:la≠[]→a.blk≠some t)(hbt:lb≠[]→b.blk≠some t)(hla:la.length≤16384)(hlb:lb.length≤16384)(h0:0≤now)(h1:now≤4611686018427387904){N M h:Nat}(hN:max la.length lb.length=N)(hM:min la.length lb.length=M)(hh:h=(N+2)/3)(hL:2*h<M→L (now+1) h h∧L (now+1) (h+1) (h+1)∧L (now+1) (N-2*h) (M-2*h)):
  Ct Pg F.eo [.pointer p,a.v,b.v,f] w (λk=>k=t∨Y k) [.one .slice,.one .bool] λ(x:Sl)(ok:Bool) w'=>
   (M≤2*h→ok=false∧x=Sl.nil∧Ext aa w w'∧Tn w' t m now deep tab∧St s0 w')∧
   (2*h<M→ok=true∧On w' w.w.heap.size x (vl W64 la*vl W64 lb)∧∃s1 m1 d1 s2 m2 d2 s3 m3 d3 s4 m4 d4 s5 m5 d5,Q s0 m (now+1) (max deep (now+1)) h h s1 m1 d1∧Q s1 m1 (now+1) d1 (h+1) (h+1) s2 m2 d2∧Q s2 m2 (now+1) d2 (h+1) (h+1) s3 m3 d3∧Q s3 m3 (now+1) d3 (h+1) (h+1) s4 m4 d4∧Q s4 m4 (now+1) d4 (N-2*h) (M-2*h) s5 m5 d5∧Tn w' t m5 now d5 tab∧St s5 w'):=by
 refine Ct.eo ?_;unfold Sh.eo;have hat':la≠[]→∀c,a.blk=some c→¬c=t:=λhl c hc h=>hat hl (by rw [hc,h])
 have hbt':lb≠[]→∀c,b.blk=some c→¬c=t:=λhl c hc h=>hbt hl (by rw [hc,h])
 obtain⟨Z,hZ⟩:∃Z,vl W64 la*vl W64 lb=Z:=⟨_,rfl⟩;have na:=ha.len;have nb:=hb.len;rw [hZ];refine j2 (λ(x y:Sl) w1=>∃l1 l2,Rd w1 x l1∧Rd w1 y l2∧l1.length=N∧l2.length=M∧(l1≠[]→∀c,x.blk=some c→¬c=t)∧(l2≠[]→∀c,y.blk=some c→¬c=t)∧vl W64 l1*vl W64 l2=Z∧w1=w.here) ?_ ?_
 ·refine ac (λh=>?_) (λh=>?_)
  ·exact⟨lb,la,hb.here,ha.here,om,om,hbt',hat',by rw [Nat.mul_comm];exact hZ,rfl⟩
  ·exact⟨la,lb,ha.here,hb.here,om,om,hat',hbt',hZ,rfl⟩
 have hNM:N≤16384∧M≤N:=om;clear ha hb hat hbt hat' hbt' na nb hZ hN hM hla hlb a b;rintro a b _ ⟨l1,l2,ha,hb,n1,n2,hat,hbt,hZ,rfl⟩;have na:=ha.len;have nb:=hb.len;refine ab om om (jb (x:=N+2) (y:=3) om rfl om dcd ?_);rw [←hh];refine ab om om ?_;refine ac (λhle=>?_) (λhle=>?_)
 ·exact rt2 (c:=.slice) (d:=.bool) Sl.nil false (Ext.refl _ _) ⟨λ_=>⟨rfl,rfl,⟨rfl,rfl,rfl,Nat.le_refl _,rfl,λ_ h=>h,λ_ h=>.inl h,λ_ _ _ _=>rfl,λ_ _=>rfl⟩,hm.here.at,hI.mv (hI.mv hS)⟩,λh=>by omega⟩
 have hlt:2*h<M:=om;obtain⟨L1,L2,L3⟩:=hL hlt;have hT:∀c,(c=t∨Y c)→c<w.w.heap.size:=λc hc=>hc.elim (λh=>h▸hm.lt) λh=>(hI.new hS h).1
 refine ch3 hc.here ?_;refine gW (kK hm.here h0 h1) (λc hc=>by subst hc;exact hm.V) ?_;intro _ w2 x2 hm2;have hm2:Tn w2 t m (now+1) (max deep (now+1)) tab:=hm2;have hS2:=hI.stay (hI.mv (k:=w.w.heap.size) hS) x2;have hc2:=hc.here.extX x2 λc hc=>(hne c hc).1
 have ha:=ha.extN x2 hat;have hb:=hb.extN x2 hbt;have z2:w.w.heap.size≤w2.w.heap.size:=x2.size;have sA:=df ha.sm;have sB:=df hb.sm;have NA:=ha.nt;have NB:=hb.nt;obtain⟨A,hA⟩:∃A,vl W64 l1=A:=⟨_,rfl⟩;obtain⟨B,hB⟩:∃B,vl W64 l2=B:=⟨_,rfl⟩;rw [hA] at NA sA hZ;rw [hB] at NB sB hZ;rw [n1] at sA;rw [n2] at sB;obtain⟨a0,a1,a2,a3,a4⟩:=rN (k:=h) sA om om;obtain⟨b0,b1,b2,b3,b4⟩:=rN (A:=B) (k:=h) (N:=M) sB om om;refine cl0 (toom_Points (k:=h) (n:=h) NA om om) ?_;intro r1 _ r3 _ r5 r6 r7 _ r9 _ w3 e3 hp;obtain⟨p1,-,p3,-,p5,hr6,p7,-,p9,-⟩:=hp;intro w4 e4 w5 e5 w6 e6 w7 e7 w8 e8 w9 e9 w10 e10 w11 e11 w12 e12 w13 e13;have eA:=((((((((e4.trans e5).trans e6).trans e7).trans e8).trans e9).trans e10).trans e11).trans e12).trans e13;clear e4 e5 e6 e7 e8 e9 e10 e11 e12 e13;refine cl0 (toom_Points (k:=h) (n:=h) (NB.ext (e3.trans eA)) om om) ?_
 intro u1 _ u3 _ u5 u6 u7 _ u9 _ w14 e14 hq;obtain⟨q1,-,q3,-,q5,hu6,q7,-,q9,-⟩:=hq;intro w15 e15 w16 e16 w17 e17 w18 e18 w19 e19 w20 e20 w21 e21 w22 e22 w23 e23 w24 e24;have eB:=((((((((e15.trans e16).trans e17).trans e18).trans e19).trans e20).trans e21).trans e22).trans e23).trans e24;clear e15 e16 e17 e18 e19 e20 e21 e22 e23 e24;have eC:=(eA.trans e14).trans eB;have z3:=e3.size;have zA:=eA.size;have z14:=e14.size;have zB:=eB.size;have p1:=(On.less (On.ext p1 eC) z2);have p3:=(On.less (On.ext p3 eC) z2);have p5:=(On.less (On.ext p5 eC) z2);have p7:=(On.less (On.ext p7 eC) z2);have p9:=(On.less (On.ext p9 eC) z2);have zz:w.w.heap.size≤w13.w.heap.size:=om;have q1:=(On.less (On.ext q1 eB) zz);have q3:=(On.less (On.ext q3 eB) zz);have q5:=(On.less (On.ext q5 eB) zz);have q7:=(On.less (On.ext q7 eB) zz);have q9:=(On.less (On.ext q9 eB) zz);have eD:=e3.trans eC;have hm3:=hm2.ext eD
 have hS3:=hI.stay hS2 eD.any;have hc3:=hc2.ext eD;have z24:w.w.heap.size≤w24.w.heap.size:=om;have xx:Ext (λk=>k=t∨Y k) w.here w24:=(x2.weak λb hb=>.inl hb).trans eD.any;clear eA eB eC eD e3 e14 NA NB ha hb hm2 hS2 hc2;have stp:∀{v w':TW} {o:Sl} {z:Nat},On v w.w.heap.size o z→Ext (λk=>k=t∨Y k) v w'→On w' w.w.heap.size o z:=λh x=>Ow.extB h x hT
 have dr:Ext (λk=>k=t∨Y k) w24 w24.drew:=(Ext.refl _ _).drew;refine lC hI hm3.drew (hI.stay hS3 (Ext.refl _ _).drew) (On.nt (stp p1 dr)) (On.nt (stp q1 dr)) a0 b0 om om hT z24 L1 λo1 w27 σ1 m1 d1 x27 g1 hm4 hS4 Q1=>?_
 have z27:w24.w.heap.size≤w27.w.heap.size:=x27.size;have E1:=dr.trans x27;refine ab om om (ab om om ?_);have dr:Ext (λk=>k=t∨Y k) w27 w27.drew:=(Ext.refl _ _).drew;have E2:=E1.trans dr;refine lC hI hm4.drew (hI.stay hS4 (Ext.refl _ _).drew) (n:=h+1) (n':=h+1) (On.nt (stp p3 E2)) (On.nt (stp q3 E2)) a1 b1 om om hT (show w.w.heap.size≤w27.w.heap.size by omega) L2 λo2 w30 σ2 m2 d2 x30 g2 hm5 hS5 Q2=>?_
 have z30:w27.w.heap.size≤w30.w.heap.size:=x30.size;have g1:=stp (On.less g1 z24) (dr.trans x30);have E3:=E2.trans x30;refine ab om om (ab om om ?_);have dr:Ext (λk=>k=t∨Y k) w30 w30.drew:=(Ext.refl _ _).drew;have E4:=E3.trans dr;refine lC hI hm5.drew (hI.stay hS5 (Ext.refl _ _).drew) (n:=h+1) (n':=h+1) (On.nt (stp p5 E4)) (On.nt (stp q5 E4)) a2 b2 om om hT (show w.w.heap.size≤w30.w.heap.size by omega) L2 λo3 w33 σ3 m3 d3 x33 g3 hm6 hS6 Q3=>?_
 have z33:w30.w.heap.size≤w33.w.heap.size:=x33.size;have g1:=stp g1 (dr.trans x33);have g2:=stp (On.less g2 (show w.w.heap.size≤w27.w.heap.size by omega)) (dr.trans x33);have E5:=E4.trans x33;refine ab om om (ab om om ?_);have dr:Ext (λk=>k=t∨Y k) w33 w33.drew:=(Ext.refl _ _).drew;have E6:=E5.trans dr;refine lC hI hm6.drew (hI.stay hS6 (Ext.refl _ _).drew) (n:=h+1) (n':=h+1) (On.nt (stp p7 E6)) (On.nt (stp q7 E6)) a3 b3 om om hT (show w.w.heap.size≤w33.w.heap.size by omega) L2 λo4 w36 σ4 m4 d4 x36 g4 hm7 hS7 Q4=>?_
 have z36:w33.w.heap.size≤w36.w.heap.size:=x36.size;have g1:=stp g1 (dr.trans x36);have g2:=stp g2 (dr.trans x36);have g3:=stp (On.less g3 (show w.w.heap.size≤w30.w.heap.size by omega)) (dr.trans x36);have E7:=E6.trans x36;refine ab om om (ag (y:=((N-2*h:Nat):Int)) (by rw [na,n1];exact (ar om om).trans om) ?_);refine ab om om (ag (y:=((M-2*h:Nat):Int)) (by rw [nb,n2];exact (ar om om).trans om) ?_);have dr:Ext (λk=>k=t∨Y k) w36 w36.drew:=(Ext.refl _ _).drew;have E8:=E7.trans dr;refine lC hI hm7.drew (hI.stay hS7 (Ext.refl _ _).drew) (n:=N-2*h) (n':=M-2*h) (On.nt (stp p9 E8)) (On.nt (stp q9 E8)) a4 b4 om om hT (show w.w.heap.size≤w36.w.heap.size by omega) L3 λo5 w39 σ5 m5 d5 x39 g5 hm8 hS8 Q5=>?_
 have z39:w36.w.heap.size≤w39.w.heap.size:=x39.size;have g1:=stp g1 (dr.trans x39);have g2:=stp g2 (dr.trans x39);have g3:=stp g3 (dr.trans x39);have g4:=stp (On.less g4 (show w.w.heap.size≤w33.w.heap.size by omega)) (dr.trans x39);have g5:=On.less g5 (show w.w.heap.size≤w36.w.heap.size by omega);have E9:=E8.trans x39;have hc9:=hc3.extX E9 λc hc h=>h.elim (hne c hc).1 (hne c hc).2
 have xx:=xx.trans E9;clear E1 E2 E3 E4 E5 E6 E7 E8 E9 dr p1 p3 p5 p7 p9 q1 q3 q5 q7 q9 x27 x30 x33 x36 x39 hm3 hm4 hm5 hm6 hm7 hS3 hS4 hS5 hS6 hS7 hc3;refine ch3 hc9 ?_;refine gW (kJ hm8 h0 h1) (λc hc=>by subst hc;exact hm8.V) ?_;intro _ w40 x40 hm9;have hm9:Tn w40 t m5 now d5 tab:=hm9;have hS9:=hI.stay hS8 x40;have x40':Ext (λk=>k=t∨Y k) w39 w40:=x40.weak λb hb=>.inl hb
 have g1:=On.nt (stp g1 x40');have g2:=On.nt (stp g2 x40');have g3:=On.nt (stp g3 x40');have g4:=On.nt (stp g4 x40');have g5:=On.nt (stp g5 x40');have hmul:=aeg A B h;rw [hZ] at hmul;have hsg:=λE O=>yR (E:=E) (O:=O) hr6 hu6 rfl
 have hZsz:sz ((T0 A h+2*T1 A h+4*T2 A h)*(T0 B h+2*T1 B h+4*T2 B h))≤1048576:=by
  have:=dt (T0 A h+2*T1 A h+4*T2 A h) (T0 B h+2*T1 B h+4*T2 B h);omega
 generalize T0 A h=A0 at*;generalize T1 A h=A1 at*;generalize T2 A h=A2 at*;generalize T0 B h=B0 at*;generalize T1 B h=B1 at*;generalize T2 B h=B2 at*;have i1:(A0+A2+A1)*(B0+B2+B1)=A0*B0+(A0*B1+A1*B0)+(A0*B2+A1*B1+A2*B0)+(A1*B2+A2*B1)+A2*B2:=by grind
 have i2:(A0+2*A1+4*A2)*(B0+2*B1+4*B2)=A0*B0+2*(A0*B1+A1*B0)+4*(A0*B2+A1*B1+A2*B0)+8*(A1*B2+A2*B1)+16*(A2*B2):=by grind
 rw [i1] at g2;rw [i2] at g4 hZsz;obtain⟨sg1,sg2⟩:=hsg (A0*B0+(A0*B2+A1*B1+A2*B0)+A2*B2) ((A0*B1+A1*B0)+(A1*B2+A2*B1)) (by grind) (by grind);refine c1 (toom_joined (k:=h) g1 g2 g3 g4 g5 sg1 sg2 hZsz) λx8 w41 e41 o8=>?_
 have hmin:min ((h:Int).toNat) 16384=h:=om;rw [hmin,hmul] at o8;refine rt2 (c:=.slice) (d:=.bool) _ _ ((xx.trans x40').trans e41.any) ⟨λh=>by omega,λ_=>⟨rfl,(On.less o8 ?_).at,σ1,m1,d1,σ2,m2,d2,σ3,m3,d3,σ4,m4,d4,σ5,m5,d5,Q1,Q2,Q3,Q4,Q5,(hm9.ext e41).at,hI.mv (hI.stay hS9 e41.any)⟩⟩;have:=x40.size;omega
end Go.Proofs.YtpbimnlggalnfaaGreatDoor.Zg
