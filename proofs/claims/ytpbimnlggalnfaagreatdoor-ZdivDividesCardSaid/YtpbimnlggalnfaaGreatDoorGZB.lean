/- A part of the proofs of this seat's laws. -/
import Derived.Test.YtpbimnlggalnfaaGreatDoorGND
import Derived.Test.YtpbimnlggalnfaaGreatDoorGP5
import Derived.Test.YtpbimnlggalnfaaGreatDoorGZA
import Derived.Test.YtpbimnlggalnfaaGreatDoorGNA
import Derived.Test.YtpbimnlggalnfaaGreatDoorGP2
import Derived.Test.YtpbimnlggalnfaaGreatDoorGP3
import Derived.Test.YtpbimnlggalnfaaGreatDoorGA
import Derived.Test.YtpbimnlggalnfaaGreatDoorGMA
import Derived.Test.YtpbimnlggalnfaaGreatDoorGMB
import Derived.Test.YtpbimnlggalnfaaGreatDoorGMD
import Derived.Test.YtpbimnlggalnfaaGreatDoorGME
import Derived.Test.YtpbimnlggalnfaaGreatDoorGKA
import Derived.Test.YtpbimnlggalnfaaGreatDoorGKE
import Derived.Test.YtpbimnlggalnfaaGreatDoorGIA
import Derived.Test.YtpbimnlggalnfaaGreatDoorGKC
import Derived.Test.YtpbimnlggalnfaaGreatDoorGHA
import Derived.Test.YtpbimnlggalnfaaGreatDoorGB
import Derived.Test.YtpbimnlggalnfaaGreatDoorGIB
import Derived.Test.YtpbimnlggalnfaaGreatDoorGJA
import Derived.Test.YtpbimnlggalnfaaGreatDoorGJB
import Derived.Test.YtpbimnlggalnfaaGreatDoorGJC
import Derived.Test.YtpbimnlggalnfaaGreatDoorGHD
import Derived.Test.YtpbimnlggalnfaaGreatDoorGK
import Derived.Test.YtpbimnlggalnfaaGreatDoorGQ
import Derived.Test.YtpbimnlggalnfaaGreatDoorGMC
import Derived.Test.YtpbimnlggalnfaaGreatDoorGNB
import Derived.Test.YtpbimnlggalnfaaGreatDoorGNC
import Derived.Test.YtpbimnlggalnfaaGreatDoorGP
import Derived.Test.YtpbimnlggalnfaaGreatDoorGP1
import Derived.Test.YtpbimnlggalnfaaGreatDoorGP4
import Derived.Test.YtpbimnlggalnfaaGreatDoorGS
import Derived.Test.YtpbimnlggalnfaaGreatDoorGC
set_option linter.unusedVariables false
set_option linter.unusedSimpArgs false
set_option linter.unnecessarySimpa false
namespace Go.Proofs.YtpbimnlggalnfaaGreatDoor.Zg
open Go.RowKit
section
section
variable {w:TW} {p:Option Addr} {zm pz mo hg g po nu ra ro dv rc c m d k e t:Nat} {now:Int} {tab:List Int}
theorem qK{a b:Sl}{xs ys:List Int}(hE:Eg w p [zm,pz,mo,hg,g,po,nu,ra,ro,dv,rc,c,m,d,k,e] t now tab)(ha:Ri w a xs)(hb:Ri w b ys)(hs:Sht xs ys)(h3:min (ae xs).length (ae ys).length≤3)(h0:0≤now)(h1:now≤1000000000000000000):
  Ct Pg F.ax [.pointer p,a.v,b.v] w (λk=>k=t) [.one .slice] λ(s:Sl) w'=>Of (dg W64) w' w.w.heap.size T.af s (pmt xs ys)∧Eg w' p [zm,pz,mo,hg,g,po,nu,ra,ro,dv,rc,c,m,d,k,e] t now tab:=by
 refine Ct.ax ?_;unfold Sh.ax;obtain⟨l1,l2,-⟩:=id hs;have k1:=ao xs;have k2:=ao ys;refine c1 (polyz_Deg ha.here om) ?_;rintro r w1 e1 rfl;refine c1 (polyz_Deg (hb.here.ext e1) om) ?_;rintro r w2 e2 rfl;have e12:=e1.trans e2;have hE2:=hE.here.ext e12;have ha2:=ha.here.ext e12;have hb2:=hb.here.ext e12;refine ag (y:=(((min (ae xs).length (ae ys).length:Nat):Int)-1)) (by split<;>omega) ?_;refine ab om om ?_;obtain⟨r0,r1,r2,r3,r4,r5,r6,r7,r8,r9,r10,htab,hr⟩:=hE2.2.2.1;subst htab;refine hE2.downC λq1 E1 _ _=>E1.down14 λ_ _ _ _ _ _ _ _ _ _ _ _ _ _ _ _ _ _ _ _ _ _ _ _ _ _ _ _ E15 _=>E15.downC λq16 E16 _ _=>E16.ent (i:=7) rfl ?_
 refine ac (λh=>?_) (λh=>absurd h om);refine hE2.down λq1 E1=>?_
 refine t1 hE2.tz (rW E1 ha2 hb2 hs h0 h1) ?_;rintro s w3 x3 ⟨h3,E3⟩;exact rt1 (c:=.slice) _ (e12.any.trans x3) ⟨(h3.less e12.size).at,(hE2.re x3 E3).at⟩
end
end
section
variable {a b s:Sl} {x y z:Int} {na nb:Bool}
theorem Iz.flip{w:TW}{n:Bool}(h:Iz w s n z):Iz w s (!n) (-z):=by
 obtain⟨v,hv,rfl⟩:=h;refine⟨v,hv,?_⟩;cases n<;>simp
theorem num_Neg{w:TW}{neg:Bool}(h:Iz w s neg z)(hz:sz z.natAbs≤1099511627776):Ct Pg F.lm [.agg #[s.v,.bool neg]] w aa [.agg [.slice,.bool]] λ(s':Sl)(neg':Bool) w'=>Io w' w.w.heap.size s' neg' (-z):=by
 refine Ct.lm ?_;unfold Sh.lm;intro w1 e1 w2 e2;have e:=(e1.trans e2).drew;refine c1 (limb_Norm (h.abs.here.ext e) hz) λs3 w3 e3 h3=>mdd h3 λr r1 w4 e4 h4=>?_
 intro w5 e5;have hf:=h.flip.neg_;rw [Int.natAbs_neg] at hf;rw [←hf] at h4;exact⟨(r,r1,()),rfl,((e.trans e3).trans e4).trans e5,((h4.ext e5).less e.size).at⟩
theorem num_Sub{w:TW}(ha:Iz w a na x)(hb:Iz w b nb y)(hx:sz x.natAbs≤1099511627776)(hy:sz y.natAbs≤1099511627776):Ct Pg F.kD [.agg #[a.v,.bool na],.agg #[b.v,.bool nb]] w aa [.agg [.slice,.bool]] λ(s':Sl)(neg':Bool) w'=>Io w' w.w.heap.size s' neg' (x-y):=by
 refine Ct.kD ?_;unfold Sh.kD;intro w1 e1 w2 e2 w3 e3;have e:=(e1.trans e2).trans e3;refine cl0 (num_Add (ha.here.ext e) (hb.here.ext e).flip hx (by rw [Int.natAbs_neg];exact hy)) ?_;intro r r1 w4 e4 hr;have hr:Io w4 w3.w.heap.size r r1 (x+-y):=hr;intro w5 e5;exact⟨(r,r1,()),rfl,(e.trans e4).trans e5,((hr.ext e5).less e.size).at⟩
section
variable {w:TW} {p:Option Addr} {t:Nat} {now:Int} {tab:List Int}
theorem Eg.down3{b1 b2 b3:Nat}{bs:List Nat}(h:Eg w p (b1::b2::b3::bs) t now tab){K:Addr→Option Addr→Addr→Option Addr→Addr→Option Addr→Prop}(hK:∀a1 q1 a2 q2 a3 q3,Eg w q3 bs t now tab→HcC w t [(a3,.pointer q3),(a2,.pointer q2),(a1,.pointer q1)]→K a1 q1 a2 q2 a3 q3):nck p λa1=>ldc (.ptr) w a1 λ(q1:Option Addr)=>nck q1 λa2=>ldc (.ptr) w a2 λ(q2:Option Addr)=>nck q2 λa3=>ldc (.ptr) w a3 λ(q3:Option Addr)=>K a1 q1 a2 q2 a3 q3:=
 h.downC λq1 E1 h1 n1=>E1.downC λq2 E2 h2 n2=>E2.downC λq3 E3 h3 n3=>hK _ q1 _ q2 _ q3 E3 (.cons h3 n3 (.cons h2 n2 (.cons h1 n1 (.nil _))))
theorem pZ{QQ:Nat→Nat→Prop}(hX:ng QQ){nu ra ro dv rc c m d k e:Nat}(hE:Eg w p [nu,ra,ro,dv,rc,c,m,d,k,e] t now tab)(ha:Iz w a na x)(hb:Iz w b nb y)(hna:na=decide (x<0)∨x=0)(hnb:nb=decide (y<0))(hy0:y≠0)(hq:QQ x.natAbs y.natAbs)(h0:0≤now)(h1:now≤1000000000000000000):
  Ct Pg F.aE [.pointer p,.agg #[a.v,.bool na],.agg #[b.v,.bool nb]] w (λk=>k=t) [.agg [.slice,.bool],.one (.int .i64)] λ(s:Sl)(n:Bool)(er:Int) w'=>(y ∣ x→er=0∧Io w' w.w.heap.size s n (x/y))∧(¬y ∣ x→er=5)∧Eg w' p [nu,ra,ro,dv,rc,c,m,d,k,e] t now tab:=by
 refine Ct.aE ?_;unfold Sh.aE;intro w1 e1 w2 e2 w3 e3;have e13:=((e1.trans e2).trans e3).drew;have hE:=hE.here.ext e13;have ha:=ha.here.ext e13;have hb:=hb.here.ext e13;refine hE.down3 λ_ _ _ _ _ _ E3 H3=>?_
 refine t2 hE.tz (hX E3 ha.abs hb.abs hq h0 h1) ?_;rintro s er w4 x4 ⟨h4,her,E4⟩;refine aN (H3.extT x4).tail ?_;have hE4:=hE.re x4 E4;have y4:Xt1 t w.here w4:=e13.any.trans x4;have hdv:y ∣ x↔x.natAbs%y.natAbs=0:=by rw [←abp];exact⟨Nat.mod_eq_zero_of_dvd,Nat.dvd_of_mod_eq_zero⟩
 rw [if_neg (show ¬y.natAbs=0 by omega)] at her;by_cases hd:x.natAbs%y.natAbs=0
 ·rw [if_pos hd] at her;subst her;rw [if_neg om] at h4;refine ap smp ?_;refine mdd h4 λr r1 w6 e6 hr=>?_
  intro w7 e7
  have hv:(if (!(na == nb))=true then -((x.natAbs/y.natAbs:Nat):Int) else ((x.natAbs/y.natAbs:Nat):Int))=x/y:=by
   rcases hna with hna|hna
   ·rw [hna,hnb,zf,zg (hdv.2 hd)]
   ·subst hna;simp
  rw [hv] at hr;have e67:=e6.trans e7;exact⟨(_,_,_,()),rfl,y4.trans e67.any,λ_=>⟨rfl,((hr.ext e7).less e13.size).at⟩,λh=>absurd (hdv.2 hd) h,(hE4.ext e67).at⟩
 ·rw [if_neg hd] at her;subst her;refine aQ smp ?_;intro w5 e5;exact⟨(Sl.nil,_,_,()),rfl,y4.trans e5.any,λh=>absurd (hdv.1 h) hd,λ_=>rfl,(hE4.ext e5).at⟩
end
section
variable {w:TW} {p:Option Addr} {pz mo hg g po nu ra ro dv rc c m d k e t:Nat} {now:Int} {tab:List Int}
theorem jZ{cs:Sl}{cn:Bool}{zs:List Int}(hE:Eg w p [pz,mo,hg,g,po,nu,ra,ro,dv,rc,c,m,d,k,e] t now tab)(ha:Ri w a zs)(hc:Iz w cs cn z)(hl:zs.length≤65536)(hz:∀i,sz (zs.getD i 0).natAbs≤524288)(hcz:sz z.natAbs≤524288)(h0:0≤now)(h1:now≤1000000000000000000):
  Ct Pg F.aC [.pointer p,a.v,.agg #[cs.v,.bool cn]] w (λk=>k=t) [.one .slice] λ(s:Sl) w'=>Oq (dg W64) w' w.w.heap.size T.af s (Sc z zs)∧Eg w' p [pz,mo,hg,g,po,nu,ra,ro,dv,rc,c,m,d,k,e] t now tab:=by
 refine Ct.aC ?_;unfold Sh.aC;have na:=ha.len;intro w1 e1;have hE1:=hE.here.ext e1;have ha1:=ha.here.ext e1;have hc1:=hc.here.ext e1;refine rk (D:=dg W64) (az _) (N:=zs.length) om om λs w2 h2 e2=>?_
 have hE2:=hE1.ext e2;refine j0 (λw9=>(∃l,Oq (dg W64) w9 w1.w.heap.size T.af s l∧l.length=zs.length∧∀i,l.getD i 0=zs.getD i 0*z)∧Xt1 t w1 w9∧Eg w9 p [pz,mo,hg,g,po,nu,ra,ro,dv,rc,c,m,d,k,e] t now tab) ?_ ?_
 ·refine lp3 (λM (x:Int) (c2:Sl) (c3:Bool) w3=>c2=cs∧c3=cn∧∃j l,x=(j:Nat)∧M=zs.length-j∧j≤zs.length∧Oq (dg W64) w3 w1.w.heap.size T.af s l∧l.length=zs.length∧(∀i,i<j→l.getD i 0=zs.getD i 0*z)∧Xt1 t w1 w3∧Eg w3 p [pz,mo,hg,g,po,nu,ra,ro,dv,rc,c,m,d,k,e] t now tab) zs.length ⟨rfl,rfl,0,_,rfl,om,om,h2,smp,λi h=>(by omega),e2.any,hE2⟩ ?_;rintro M x c2 c3 w3 ⟨rfl,rfl,j,l,rfl,rfl,hj,ho,hlen,gl,x3,hE3⟩;refine ac (λh=>?_) (λh=>?_)
  ·refine (ha1.extT hE1.tz x3).ix (j:=j) rfl om λa1 tt hzt _ q0 q1=>ldp q0 q1 ?_
   intro w4 e4 w5 e5;have e45:=e4.trans e5;have hE5:=hE3.ext e45;refine tM hE5.tz (pF hE5 (hzt.ext e45) ((hc1.extT hE1.tz x3).ext e45) (Nat.le_trans (hz j) dcd) om h0 h1) ?_;rintro r r1 w6 x6 ⟨hr,hE6⟩;have y6:Xt1 t w3 w6:=e45.any.trans x6;have ho6:=ho.extT hE3.tz jd y6;refine ho6.set (z:=zs.getD j 0*z) rfl om hr.el (λ_ c hc=>⟨λh'=>?_,(Ow.from_ hr.1 c hc).2⟩) λw8 h8 e8=>?_
   ·have q1:=Ow.blk_le hr.1 c hc;have q2:=(ho.lt_blk c h').2;have q3:=e45.size;omega
   have hX:∀c,s.blk=some c→w1.w.heap.size≤c:=λc hc=>(ho6.lt_blk c hc).1
   have hE8:=hE6.young hE1 e8 hX;refine ab om om ⟨zs.length-(j+1),om,rfl,rfl,j+1,_,om,rfl,om,h8,by simp [hlen],λi hi=>?_,Ext.mineT (x3.trans y6) e8 λc hc=>.inr (hX c hc),hE8⟩;rw [kS om];by_cases h':i=j
   ·rw [if_pos h',h']
   ·rw [if_neg h'];exact gl i om
  ·refine⟨⟨l,ho,hlen,λi=>?_⟩,x3,hE3⟩;rcases Nat.lt_or_ge i j with hi|hi
   ·exact gl i hi
   ·rw [fU om,fU om];simp
 rintro w9 ⟨⟨l,ho,hlen,gl⟩,x9,hE9⟩;refine c1 (polyz_trim ho.rq.ri om) ?_;rintro _ w10 e10 rfl;have hcut:=(ho.cut (ao l)).ext e10;rw [iD] at hcut;refine rt1 (c:=.slice) _ ((e1.any.trans x9).trans e10.any) ⟨?_,(hE9.ext e10).at⟩;rw [show Sc z zs=ae l from (Nm.trim _).ext (Nm.trim _) λi=>(iB z zs i).trans (by rw [aT,gl])];exact (hcut.less e1.size).at
end
theorem Of.zeros{D:Nat→List Nat}{w:TW}{B N:Nat}{e:TypeId}(hD:D 0=[])(h:Oq D w B e s (List.replicate N 0)):Of D w B e s (List.replicate N 0):=by
 obtain⟨ts,g1,g2,g3⟩:=h;refine⟨ts,g1,g2,λi hi=>⟨(g3 i hi).1,λhn=>absurd ?_ hn⟩⟩
 have:(List.replicate N (0:Int)).getD i 0=0:=by
  simp only [List.getD_eq_getElem?_getD,List.getElem?_replicate];split<;>rfl
 rw [this];exact hD
theorem polyz_Minus{w:TW}{xs ys:List Int}(ha:Ri w a xs)(hb:Ri w b ys)(hl:xs.length≤65536)(hl2:ys.length≤65536)(hx:∀i,sz (xs.getD i 0).natAbs≤1048576)(hy:∀i,sz (ys.getD i 0).natAbs≤1048576):
  Ct Pg F.dA [a.v,b.v] w aa [.one .slice] λ(s:Sl) w'=>Of (dg W64) w' w.w.heap.size T.af s (Sb xs ys):=by
 refine Ct.dA ?_;unfold Sh.dA;have na:=ha.len;have nb:=hb.len;obtain⟨N,hN⟩:∃N,N=max xs.length ys.length:=⟨_,rfl⟩;refine ag (y:=(N:Int)) (by split<;>omega) ?_;refine rk (D:=dg W64) (az _) (N:=N) rfl om λs w1 h1 e1=>?_
 have ns:=h1.len;have h1:=Of.zeros (az _) h1;rw [List.length_replicate] at ns;rw [ns];refine j0 (λw8=>(∃l,Of (dg W64) w8 w.w.heap.size T.af s l∧l.length=N∧∀i,l.getD i 0=xs.getD i 0-ys.getD i 0)∧Ext aa w.here w8) ?_ ?_
 ·refine lp1 (λM (x:Int) w2=>∃j l,x=(j:Nat)∧M=N-j∧j≤N∧Of (dg W64) w2 w.w.heap.size T.af s l∧l.length=N∧(∀i,i<j→l.getD i 0=xs.getD i 0-ys.getD i 0)∧Ext aa w.here w2) N ⟨0,_,rfl,om,om,h1,smp,λi h=>(by omega),e1⟩ ?_;rintro M x w2 ⟨j,l,rfl,rfl,hj,ho,hlen,gl,e2⟩;refine ac (λh=>?_) (λh=>?_)
  ·refine cl0 (polyz_at (i:=j) (ha.here.ext e2)) ?_;intro r r1 w3 e3 hr;have hr:Iz w3 r r1 (xs.getD j 0):=hr;refine cl0 (polyz_at (i:=j) (hb.here.ext (e2.trans e3))) ?_;intro r2 r3 w4 e4 hr2;have hr2:Iz w4 r2 r3 (ys.getD j 0):=hr2;refine cl0 (num_Sub (hr.ext e4) hr2 (Nat.le_trans (hx j) dcd) (Nat.le_trans (hy j) dcd)) ?_;intro r4 r5 w5 e5 hr4;have hr4:Io w5 w4.w.heap.size r4 r5 (xs.getD j 0-ys.getD j 0):=hr4;have e25:=(e3.trans e4).trans e5;have ho5:=ho.ext e25;refine ho5.set (z:=xs.getD j 0-ys.getD j 0) rfl om hr4.el (λ_ c hc=>⟨Nat.le_trans (e2.trans (e3.trans e4)).size (Ow.blk_le hr4.1 c hc),λh'=>?_,(Ow.from_ hr4.1 c hc).2⟩) λw7 h7 e7=>?_
   ·have q1:=Ow.blk_le hr4.1 c hc;have q2:=(ho.lt_blk c h').2;have q3:=(e3.trans e4).size;omega
   refine ab om om ⟨N-(j+1),om,j+1,_,om,rfl,om,h7,by simp [hlen],λi hi=>?_,(e2.trans e25).own e7 λc hc=>(ho5.lt_blk c hc).1⟩;rw [kS om];by_cases h':i=j
   ·rw [if_pos h',h']
   ·rw [if_neg h'];exact gl i om
  ·refine⟨⟨l,ho,hlen,λi=>?_⟩,e2⟩;rcases Nat.lt_or_ge i j with hi|hi
   ·exact gl i hi
   ·rw [fU om,fU om,fU om];simp
 rintro w8 ⟨⟨l,ho,hlen,gl⟩,e8⟩;refine c1 (polyz_trim ho.rq.ri om) ?_;rintro _ w9 e9 rfl;have hcut:=(ho.cut (ao l)).ext e9;rw [iD] at hcut;refine rt1 (c:=.slice) _ (e8.trans e9) ?_;rw [show Sb xs ys=ae l from (Nm.trim _).ext (Nm.trim _) λi=>(kN xs ys i).trans (by rw [aT,gl])];exact hcut.at
end
section
variable {B:Nat} {s x:Sl} {y:Bool} {K:Sl→TW→Prop} {zs:List Int} {z:Int}
theorem ac9{w:TW}{e:TypeId}{ts:List (Sl × Bool)}(h:Own w B e 2 s (ts.flatMap iv))(hB:B≤w.w.heap.size)(hn:ts.length+1≤1099511627776)(hK:∀s' w',Own w' B e 2 s' ((ts++[(x,y)]).flatMap iv)→Ext (λc=>s.blk=some c) w w'→(∀b,s'.blk=some b→s.blk=some b∨w.w.heap.size≤b)→K s' w'):nwb w [x.v,.bool y] e λb w'=>apd w' e 2 32 s ⟨some ⟨b,0,none⟩,1,1⟩ K:=by
 intro b w1 hw;have e1:Ext aa w w1:=hw.ext _;have h:=h.ext e1 λ_ _ h=>h
 have h1:=h.rdv.len2;have hle:=Nat.le_trans hB e1.size;refine⟨B,ts.flatMap iv,[x.v,.bool y],h,⟨smp,Nat.le_refl _,by show 1≤maxLen;decide,λ_=>⟨b,0,rfl,λhV=>?_,λj v hj=>?_⟩⟩,hle,?_,?_,?_,λs' w' ho _ hx hb=>hK s' w' ?_ (e1.any.trans hx) λc hc=>(hb c hc).imp id λh=>Nat.le_trans e1.size h⟩
 ·rw [hw.V] at hV;have:=w.lt _ hV;have:=hw.at_;omega
 ·rw [cell_of_row w1.w b (0+j) _ e (0,0) hw.heap];simpa using hj
 ·intro v hv;simp at hv;rcases hv with rfl|rfl<;>rfl
 ·show s.n+1≤9223372036854775807;omega
 ·show (s.n+1)*32≤_;omega
 ·simpa [iv] using ho
theorem Oq.pushB{D:Nat→List Nat}{w:TW}{e:TypeId}(h:Oq D w B e s zs)(hB:B≤w.w.heap.size)(hn:zs.length+1≤1099511627776)(hz:El D w (x,y) z)(hb:D z.natAbs≠[]→∀c,x.blk=some c→s.blk≠some c∧c<w.w.heap.size)(hK:∀s' w',Oq D w' B e s' (zs++[z])→Ext (λc=>s.blk=some c) w w'→(∀b,s'.blk=some b→s.blk=some b∨w.w.heap.size≤b)→K s' w'):nwb w [x.v,.bool y] e λb w'=>apd w' e 2 32 s ⟨some ⟨b,0,none⟩,1,1⟩ K:=by
 obtain⟨ts,g1,g2,g3⟩:=h;refine ac9 g1 hB om λs' w' h' x' hb'=>hK s' w' ⟨ts++[(x,y)],h',by simp [g2],λi hi=>?_⟩ x' hb'
 simp only [List.length_append,List.length_singleton] at hi
 have key:∀(t:Sl × Bool) (q:Int),El D w t q→(D q.natAbs≠[]→∀c,t.1.blk=some c→s.blk≠some c∧c<w.w.heap.size)→El D w' t q∧(D q.natAbs≠[]→∀c,t.1.blk=some c→s'.blk≠some c∧c<w'.w.heap.size):=λt q k1 k2=>
  ⟨⟨k1.1.extN x' λhne c hc=>(k2 hne c hc).1,k1.2⟩,λhne c hc=>⟨λhs=>(hb' c hs).elim (k2 hne c hc).1 λh=>by have:=(k2 hne c hc).2;omega,Nat.lt_of_lt_of_le (k2 hne c hc).2 x'.size⟩⟩
 rcases Nat.lt_or_ge i ts.length with hlt|hge
 ·rw [List.getElem_append_left hlt,show (zs++[z]).getD i 0=zs.getD i 0 by simp [List.getD_eq_getElem?_getD,List.getElem?_append_left (show i<zs.length by omega)]];exact key _ _ (g3 i hlt).1 (g3 i hlt).2
 ·have:i=ts.length:=om;subst this;rw [List.getElem_append_right (Nat.le_refl _),show (zs++[z]).getD ts.length 0=z by rw [g2];simp];simp only [Nat.sub_self,List.getElem_singleton];exact key _ _ hz hb
section
variable {w:TW} {p:Option Addr} {pz mo hg g po nu ra ro dv rc c m d k e t:Nat} {now:Int} {tab:List Int}
theorem Eg.down5{b1 b2 b3 b4 b5:Nat}{bs:List Nat}(h:Eg w p (b1::b2::b3::b4::b5::bs) t now tab){K:Addr→Option Addr→Addr→Option Addr→Addr→Option Addr→Addr→Option Addr→Addr→Option Addr→Prop}(hK:∀a1 q1 a2 q2 a3 q3 a4 q4 a5 q5,Eg w q5 bs t now tab→HcC w t [(a5,.pointer q5),(a4,.pointer q4),(a3,.pointer q3),(a2,.pointer q2),(a1,.pointer q1)]→K a1 q1 a2 q2 a3 q3 a4 q4 a5 q5):nck p λa1=>ldc (.ptr) w a1 λ(q1:Option Addr)=>nck q1 λa2=>ldc (.ptr) w a2 λ(q2:Option Addr)=>nck q2 λa3=>ldc (.ptr) w a3 λ(q3:Option Addr)=>nck q3 λa4=>ldc (.ptr) w a4 λ(q4:Option Addr)=>nck q4 λa5=>ldc (.ptr) w a5 λ(q5:Option Addr)=>K a1 q1 a2 q2 a3 q3 a4 q4 a5 q5:=
 h.downC λq1 E1 h1 n1=>E1.downC λq2 E2 h2 n2=>E2.downC λq3 E3 h3 n3=>E3.downC λq4 E4 h4 n4=>E4.downC λq5 E5 h5 n5=>hK _ q1 _ q2 _ q3 _ q4 _ q5 E5 (.cons h5 n5 (.cons h4 n4 (.cons h3 n3 (.cons h2 n2 (.cons h1 n1 (.nil _))))))
theorem qP{QQ:Nat→Nat→Prop}(hX:ng QQ){a cs:Sl}{cn:Bool}(hE:Eg w p [pz,mo,hg,g,po,nu,ra,ro,dv,rc,c,m,d,k,e] t now tab)(ha:Rq (dg W64) w a zs)(hn:Nm zs)(hc:Iz w cs cn z)(hcn:cn=decide (z<0))(hz0:z≠0)(hl:zs.length≤65536)(hz:∀i,sz (zs.getD i 0).natAbs≤16384)(hcz:sz z.natAbs≤16384)(hq:∀i,QQ (zs.getD i 0).natAbs z.natAbs)(h0:0≤now)(h1:now≤1000000000000000000):
  Ct Pg F.cI [.pointer p,a.v,.agg #[cs.v,.bool cn]] w (λk=>k=t) [.one .slice,.one (.int .i64)] λ(s:Sl)(er:Int) w'=>((∀i,z ∣ zs.getD i 0)→er=0∧Rq (dg W64) w' s (zs.map λx=>x/z))∧((¬∀i,z ∣ zs.getD i 0)→er≠0∧s=Sl.nil)∧Eg w' p [pz,mo,hg,g,po,nu,ra,ro,dv,rc,c,m,d,k,e] t now tab:=by
 refine Ct.cI ?_;unfold Sh.cI;intro w1 e1;refine c1 (dS (hc.abs.here.ext e1)) ?_;rintro ok w2 e2 rfl;refine ap (by simp;omega) ?_;have e12:=e1.trans e2;have na:=ha.len;have htr:ae zs=zs:=fE hn;refine c1 (polyz_trim (ha.here.ext e12).ri om) ?_;rintro _ w3 e3 rfl;rw [htr,xD na];have e13:=e12.trans e3;have hE3:=hE.here.ext e13;have ha3:=ha.here.ext e13;have hc3:=hc.here.ext e13;refine j1 (λ(out:Sl) w17=>(∀i,z ∣ zs.getD i 0)∧Oq (dg W64) w17 w3.w.heap.size T.af out (zs.map λx=>x/z)∧Xt1 t w3 w17∧Eg w17 p [pz,mo,hg,g,po,nu,ra,ro,dv,rc,c,m,d,k,e] t now tab) ?_ ?_
 ·refine lp4 (λM (out:Sl) (x:Int) (c2:Sl) (c3:Bool) w4=>c2=cs∧c3=cn∧∃j:Nat,x=j∧M=zs.length-j∧j≤zs.length∧(∀i,i<j→z ∣ zs.getD i 0)∧Oq (dg W64) w4 w3.w.heap.size T.af out ((zs.map λx=>x/z).take j)∧Xt1 t w3 w4∧Eg w4 p [pz,mo,hg,g,po,nu,ra,ro,dv,rc,c,m,d,k,e] t now tab) zs.length ⟨rfl,rfl,0,rfl,om,om,λi h=>(by omega),Oq.nil _ _ _ _,Ext.refl _ _,hE3⟩ ?_;rintro M out x c2 c3 w4 ⟨rfl,rfl,j,rfl,rfl,hj,hdv,ho,x4,hE4⟩;refine ac (λh=>?_) (λh=>?_)
  ·have hj':j<zs.length:=om;refine (ha3.extT hE3.tz x4).ix (j:=j) rfl hj' λa1 tt hel _ q0 q1=>ldp q0 q1 ?_
   intro w5 e5 w6 e6;have e46:=e5.trans e6
   have key:∀{v:TW} {p6:Option Addr} {A:List (Addr × Value)} {KK:Sl→Bool→Int→TW→Prop},Ext aa w4 v→Eg v p6 [nu,ra,ro,dv,rc,c,m,d,k,e] t now tab→HcC v t A→(∀r r1 er v',((z ∣ zs.getD j 0)→er=0∧Io v' v.w.heap.size r r1 (zs.getD j 0/z))→(¬z ∣ zs.getD j 0→er=5)→Xt1 t v v'→Xt1 t w3 v'→HcC v' t A→Eg v' p [pz,mo,hg,g,po,nu,ra,ro,dv,rc,c,m,d,k,e] t now tab→KK r r1 er v')→cl Pg F.aE [.pointer p6,.agg #[tt.1.v,.bool tt.2],.agg #[c2.v,.bool c3]] v [.agg [.slice,.bool],.one (.int .i64)] KK:=by
    intro v p6 A KK ev Ev HA hK;have hEv:=hE4.ext ev;refine tM hEv.tz (pZ hX Ev ((hel.iz).ext ev) ((hc3.extT hE3.tz x4).ext ev) (.inl hel.2) hcn hz0 (hq j) h0 h1) ?_;rintro r r1 er v' xv ⟨k1,k2,E'⟩;exact hK r r1 er v' k1 k2 xv ((x4.trans ev.any).trans xv) (HA.extT xv) (hEv.re xv E')
   have tl:∀{v v9:TW} {r:Sl} {r1:Bool} {er:Int},Ext aa w4 v→Xt1 t v v9→Xt1 t w3 v9→Eg v9 p [pz,mo,hg,g,po,nu,ra,ro,dv,rc,c,m,d,k,e] t now tab→((z ∣ zs.getD j 0)→er=0∧Io v9 v.w.heap.size r r1 (zs.getD j 0/z))→(¬z ∣ zs.getD j 0→er=5)→cond (er != 0) (Rt (λk=>k=t) [.one .slice,.one (.int .i64)] (λ(s:Sl)(er:Int) w'=>((∀i,z ∣ zs.getD i 0)→er=0∧Rq (dg W64) w' s (zs.map λx=>x/z))∧((¬∀i,z ∣ zs.getD i 0)→er≠0∧s=Sl.nil)∧Eg w' p [pz,mo,hg,g,po,nu,ra,ro,dv,rc,c,m,d,k,e] t now tab) w (.tuple #[.slice none 0 0,.int .i64 er]) v9) (nwb v9 [r.v,.bool r1] T.af λb w10=>apd w10 T.af 2 32 out ⟨some ⟨b,0,none⟩,1,1⟩ λs1 w11=>bnd (wi (((j:Nat):Int)+1)) λn=>∃m',m'<zs.length-j∧c2=c2∧c3=c3∧∃j':Nat,n=j'∧m'=zs.length-j'∧j'≤zs.length∧(∀i,i<j'→z ∣ zs.getD i 0)∧Oq (dg W64) w11 w3.w.heap.size T.af s1 ((zs.map λx=>x/z).take j')∧Xt1 t w3 w11∧Eg w11 p [pz,mo,hg,g,po,nu,ra,ro,dv,rc,c,m,d,k,e] t now tab):=by
    intro v v9 r r1 er ev xv x39 hE9 k1 k2;by_cases hd:z ∣ zs.getD j 0
    ·obtain⟨rfl,hr⟩:=k1 hd;refine ap smp ?_;have ho9:=(ho.ext ev).extT (hE4.ext ev).tz jd xv;refine ho9.pushB x39.size (by simp;omega) hr.el (λ_ b hb=>⟨λh'=>?_,(Ow.from_ hr.1 b hb).2⟩) λs' w' h' x' _=>?_
     ·have q1:=Ow.blk_le hr.1 b hb;have q2:=(ho.lt_blk b h').2;have q3:=ev.size;omega
     have hX:∀b,out.blk=some b→w3.w.heap.size≤b:=λb hb=>(ho9.lt_blk b hb).1
     refine ab om om ⟨zs.length-(j+1),om,rfl,rfl,j+1,om,rfl,om,λi hi=>?_,?_,Ext.mineT x39 x' λb hb=>.inr (hX b hb),hE9.young hE3 x' hX⟩
     ·by_cases h2:i=j
      ·rw [h2];exact hd
      ·exact hdv i om
     ·rw [dy _ (by simpa using hj'),aZ smp];exact h'
    ·have:=k2 hd;subst this;refine aQ smp ?_;exact rt2 (c:=.slice) (d:=.int .i64) Sl.nil 5 (e13.any.trans x39) ⟨λh=>absurd (h j) hd,λ_=>⟨dcd,rfl⟩,hE9.at⟩
   have ed:Ext aa w4 w6.drew:=e46.drew;refine (hE4.ext ed).down5 λ_ _ _ _ _ _ _ _ _ _ E5 H5=>⟨?_,?_⟩
   ·refine key ed E5 H5 λr r1 er w7 k1 k2 xv x37 H hE7=>?_
    refine aN H.tail ?_;intro w8 e8;refine aN (H.ext e8).tail ?_;intro w9 e9;have e79:=e8.trans e9;exact tl ed (xv.trans e79.any) (x37.trans e79.any) (hE7.ext e79) (λh=>⟨(k1 h).1,(k1 h).2.ext e79⟩) k2
   ·intro w12 e12';refine aN (H5.ext e12') ?_;refine key (ed.trans e12') (E5.ext e12') (H5.ext e12') λr r1 er w13 k1 k2 xv x313 H hE13=>?_
    refine aN H.tail ?_;intro w14 e14;exact tl (ed.trans e12') (xv.trans e14.any) (x313.trans e14.any) (hE13.ext e14) (λh=>⟨(k1 h).1,(k1 h).2.ext e14⟩) k2
  ·have hje:j=zs.length:=om;refine⟨λi=>?_,?_,x4,hE4⟩
   ·rcases Nat.lt_or_ge i zs.length with hi|hi
    ·exact hdv i om
    ·rw [fU hi];exact Int.dvd_zero _
   ·rw [List.take_of_length_le (by simp;omega)] at ho;exact ho
 rintro out w17 ⟨hall,ho,x17,hE17⟩;exact rt2 (c:=.slice) (d:=.int .i64) _ 0 (e13.any.trans x17) ⟨λ_=>⟨rfl,ho.rq.at⟩,λh=>absurd hall h,hE17.at⟩
end
end
end Go.Proofs.YtpbimnlggalnfaaGreatDoor.Zg
