/- A part of the proofs of this seat's laws. -/
import Derived.Test.YtpbimnlggalnfaaGreatDoorGZG
import Derived.Test.YtpbimnlggalnfaaGreatDoorGNE
set_option linter.unusedVariables false
set_option linter.unusedSimpArgs false
set_option linter.unnecessarySimpa false
namespace Go.Proofs.YtpbimnlggalnfaaGreatDoor.Zg
open Go.RowKit
section
variable {w:TW} {a:Sl}
theorem rC:vA Shw:=λhE ha hb hs h0 h1=>vB hE ha hb hs h0 h1
theorem lp7{c1 c2 c3 c4 c5 c6 c7:CK}{body:Tel [c1,c2,c3,c4,c5,c6,c7] (TW→(Tel [c1,c2,c3,c4,c5,c6,c7] (TW→Prop))→Prop)}{x1:CV c1}{x2:CV c2}{x3:CV c3}{x4:CV c4}{x5:CV c5}{x6:CV c6}{x7:CV c7}(I:Nat→CV c1→CV c2→CV c3→CV c4→CV c5→CV c6→CV c7→TW→Prop)(m:Nat)(h0:I m x1 x2 x3 x4 x5 x6 x7 w)(hs:∀m x1 x2 x3 x4 x5 x6 x7 w,I m x1 x2 x3 x4 x5 x6 x7 w→body x1 x2 x3 x4 x5 x6 x7 w (λy1 y2 y3 y4 y5 y6 y7 w'=>∃m',m'<m∧I m' y1 y2 y3 y4 y5 y6 y7 w')):Lp [c1,c2,c3,c4,c5,c6,c7] body x1 x2 x3 x4 x5 x6 x7 w:=⟨I,⟨m,h0⟩,hs⟩
theorem rl{z:Int}{B:Nat}(h:bl z.natAbs≤B):∀k:Nat,bl (z^k).natAbs≤1+k*B
 | 0=>by rw [Int.pow_zero];exact Nat.le_trans (bh (k:=1) dcd) om
 | k+1=>by
  rw [Int.pow_succ];have:=ku (rl h k) h;rw [Nat.add_mul];omega
theorem xe{na:Bool}{z:Int}{k B:Nat}(ha:Zr w a na z)(hB:bl z.natAbs≤B)(hk:1+k*B≤1000000)(hB2:B≤1000000)(hk2:k≤1000000):Ct Pg F.cT [.agg #[a.v,.bool na],.int .i64 k] w aa [.agg [.slice,.bool]] λ(s:Sl)(n:Bool) w'=>Zr w' s n (z^k):=by
 refine Ct.cT ?_;unfold Sh.cT;intro w1 e1 w2 e2;refine cl0 (uw (n:=1) dcd dcd) ?_;intro r r1 w3 e3 hr;have hr:Zr w3 r r1 1:=hr.1;intro w4 e4 w5 e5;have e15:=(((e1.trans e2).trans e3).trans e4).trans e5;have ha5:=ha.here.ext e15;refine j4 (λ(_:Sl)(_:Bool)(o:Sl)(ob:Bool) w9=>Zr w9 o ob (z^k)∧Ext aa w.here w9) ?_ ?_
 ·refine lp7 (λM (i:Int) (x:Sl) (xb:Bool) (_:Sl) (_:Bool) (o:Sl) (ob:Bool) w6=>x=a∧xb=na∧∃j:Nat,i=j∧M=k-j∧j≤k∧Zr w6 o ob (z^j)∧Ext aa w5 w6) k ⟨rfl,rfl,0,rfl,om,om,by rw [Int.pow_zero];exact hr.ext (e4.trans e5),Ext.refl _ _⟩ ?_;rintro M i x xb _ _ o ob w6 ⟨rfl,rfl,j,rfl,rfl,hj,ho,e6⟩;refine ac (λh=>?_) (λh=>?_)
  ·have hjk:j<k:=om;have h1:=rl hB j;have h2:j*B≤k*B:=Nat.mul_le_mul_right _ om;refine cl0 (oH ho (ha5.ext e6) (Nat.le_trans (ke (dY h1)) om) (Nat.le_trans (ke (dY hB)) om)) ?_;intro r2 r3 w7 e7 hr2;have hr2:Zr w7 r2 r3 (z^j*z):=hr2.1;intro w8 e8;refine ab om om ⟨k-(j+1),om,rfl,rfl,j+1,om,rfl,om,?_,(e6.trans e7).trans e8⟩;rw [Int.pow_succ];exact hr2.ext e8
  ·have:j=k:=om;subst this;exact⟨ho,e15.trans e6⟩
 rintro _ _ o ob w9 ⟨ho,e9⟩;intro w10 e10;exact⟨(_,_,()),rfl,e9.trans e10,(ho.ext e10).at⟩
theorem qo{s:Sl}{zs:List Int}{n:Nat}(h:Rb w s zs n):hgt (ae zs)≤64*n:=by rw [fX];exact fz h.hg
theorem yi{t:HL I11}{b:Sl}{zs ys:List Int}(hG:Gl w)(ha:Ri w a zs)(hb:Ri w b ys):Ct Pg F.bk [.agg (aJ I11 t).toArray,a.v,b.v] w aa [.one .bool] λ(r:Bool) _=>r=true:=by
 refine Ct.bk ?_;unfold Sh.bk;intro w1 e1;refine c2 (mz (n:=9) (k:=2) (ha.here.ext e1) dcd dcd) ?_;rintro s s1 w2 e2 ⟨X,lx,hs,hs1⟩;refine c2 (mz (n:=6) (k:=2) ((hb.here.ext e1).ext e2) dcd dcd) ?_;rintro s2 s3 w3 e3 ⟨Y,ly,ht,ht1⟩;have e13:=(e1.trans e2).trans e3;refine qN (t:=t) (hG.here.ext e13) λp w4 zd zm pz mo hg g po nu ra ro dv rc c m d k e tt tab e4 hE htt hp=>ap (by rw [hp]) ?_
 have gX:hgt (ae X)≤128:=qo hs;have gY:hgt (ae Y)≤128:=qo ht;have lX:=ak X;have lY:=ak Y;have hKb:128+((ae X).length+1-(ae Y).length)*(128+1)≤1418:=om;refine tM hE.tz (ox rC hE (hs.ri.ext (e3.trans e4)) (ht.ri.ext e4) om om om gX gY om dcd (λT h1 h2=>Shw.of om om om) dcd dcd) ?_;rintro s4 s5 r r1 w5 x5 ⟨hp1,hp2,hE5⟩;have hs1:=(hs1.ext (e3.trans e4)).extT hE.tz x5;have ht1:=(ht1.ext e4).extT hE.tz x5;have nt:=ht1.len
 have fin:∀{w9:TW},Ext aa w5 w9→Rt aa [.one .bool] (λ(r:Bool) _=>r=true) w (.bool true) w9:=fun {w9} e9=>by
  refine rt1 (c:=.bool) true ?_ rfl;exact (e13.trans e4).own (x5.trans e9.any) λc hc=>by subst hc;exact Nat.le_trans e13.size htt
 by_cases hY:ae Y=[]
 ·refine bf (by rw [nt,hY];rfl) ?_;obtain⟨rfl,rfl,rfl,rfl⟩:=hp1 hY;refine j1 (λ(x:Bool) w7=>x=true∧Ext aa w5 w7) ?_ ?_
  ·refine bf rfl (ab dcd dcd (ab dcd dcd (bf rfl ?_)));exact vC hE5.gl λw6 e6=>⟨rfl,e6⟩
  rintro x w7 ⟨rfl,e7⟩;exact fin e7
 ·refine ap (by rw [nt];simp;exact hY) ?_;obtain⟨rfl,rfl,hq,hr⟩:=hp2 hY;refine cl0 (th hs1 ht1 hY om om gX gY dcd om) ?_;rintro s6 s7 r2 w8 e8 ⟨h6,h7,h8⟩;have h8:r2=_:=h8;subst h8;have hz:=pj gX gY ((ae X).length+1-(ae Y).length);have hzl:=ph (ae X) (ae Y) ((ae X).length+1-(ae Y).length);refine j1 (λ(x:Bool) w12=>x=true∧Ext aa w5 w12) ?_ ?_
  ·refine bf rfl (bf smp ?_);refine wX (show Rq (dg B32) w8 s6 _ from h6) (hq.ext e8) om (Nat.le_trans hz.1 om) λw9 e9=>bf rfl ?_
   have h7:Rq (dg B32) w8 s7 (l6 (ae X) (ae Y)):=h7;refine wX (h7.ext e9) ((hr.ext e8).ext e9) (by unfold l6;omega) (by unfold l6;exact Nat.le_trans hz.2 om) λw10 e10=>bf rfl ?_
   exact vC (hE5.gl.ext ((e8.trans e9).trans e10)) λw11 e11=>⟨rfl,((e8.trans e9).trans e10).trans e11⟩
  rintro x w12 ⟨rfl,e12⟩;exact fin e12
end
theorem vY{w:TW}{t:HL I11}{a b:Sl}{zs ys:List Int}(hG:Gl w)(ha:Ri w a zs)(hb:Ri w b ys):Ct Pg F.aR [.agg (aJ I11 t).toArray,a.v,b.v] w aa [.one .bool] λ(r:Bool) _=>r=true:=by
 refine Ct.aR ?_;unfold Sh.aR;intro w1 e1;refine c2 (mz (n:=14) (k:=3) (ha.here.ext e1) dcd dcd) ?_;rintro s s1 w2 e2 ⟨X,lx,hs,hs1⟩;refine c2 (mz (n:=10) (k:=3) ((hb.here.ext e1).ext e2) dcd dcd) ?_;rintro s2 s3 w3 e3 ⟨Y,ly,ht,ht1⟩;have e13:=(e1.trans e2).trans e3;refine qN (t:=t) (hG.here.ext e13) λp w4 zd zm pz mo hg g po nu ra ro dv rc c m d k e tt tab e4 hE htt hp=>ap (by rw [hp]) ?_
 have gX:hgt (ae X)≤192:=qo hs;have gY:hgt (ae Y)≤192:=qo ht;have lX:=ak X;have lY:=ak Y;have hs1:=hs1.ext (e3.trans e4);have ht1:=ht1.ext e4;have nt:=ht1.len;have e14:=e13.trans e4;by_cases hY:ae Y=[]
 ·refine bf (by rw [nt,hY];rfl) ?_;exact vC hE.gl λw5 e5=>rt1 (c:=.bool) true (e14.trans e5) rfl
 refine ap (by rw [nt];simp;exact hY) ?_;refine tM hE.tz (ox rC hE (hs.ri.ext (e3.trans e4)) (ht.ri.ext e4) om om om gX gY om dcd (λT h1 h2=>Shw.of om om om) dcd dcd) ?_;rintro s4 s5 r r1 w6 x6 ⟨-,hp2,hE6⟩;obtain⟨rfl,rfl,hq,hr⟩:=hp2 hY;have hs1:=hs1.extT hE.tz x6;have ht1:=ht1.extT hE.tz x6;have nX:Nm (ae X):=Nm.trim X;have nY:Nm (ae Y):=Nm.trim Y;have hpd:=tn nX hY;have hnm:=tq (b:=ae Y) nX ((ae X).length+1-(ae Y).length);have hz:=pj gX gY ((ae X).length+1-(ae Y).length);have hzl:=ph (ae X) (ae Y) ((ae X).length+1-(ae Y).length);have hrl:=yz nX hY;unfold l6 at hr hrl;have nX':=hs1.len;generalize ae X=X' at*;generalize ae Y=Y' at*;obtain⟨K,hK⟩:∃K,X'.length+1-Y'.length=K:=⟨_,rfl⟩;rw [hK] at hpd hnm hz hzl hq hr hrl ⊢;generalize (prz X' Y' K).1=Q at*
 generalize (prz X' Y' K).2=R at*;have hpos:0<Y'.length:=List.length_pos_iff.2 hY;have nr:=hr.len;refine j1 (λ(x:Bool) w7=>x=false∧w7=w6) ?_ ?_
 ·refine ap rfl (ab om om (ab om om (ag (y:=((K:Nat):Int)) (by split<;>omega) (ap smp (ap (decide_eq_false om) ⟨rfl,rfl⟩)))))
 rintro x w7 ⟨rfl,rfl⟩;refine ap rfl ?_;have hK14:K≤14:=om;refine ag (y:=((Y'.length-1:Nat):Int)) ((au om om).trans om) ?_;refine ht1.ix (j:=Y'.length-1) rfl om λa1 t1 hel _ q0 q1=>ldp q0 q1 ?_
 have hzr:Zr w7 t1.1 t1.2 (ldz Y'):=hel.zr;have bc:bl (ldz Y').natAbs≤192:=bM gY _;have hpw:=rl bc K;refine cl0 (xe hzr bc om dcd om) ?_;intro r2 r3 w8 e8 hr2;have hr2:Zr w8 r2 r3 (ldz Y'^K):=hr2;refine c1 (jV (hs1.ext e8) hr2 om om om) λs6 w9 e9 h6=>?_
 have gS:hgt (Sc (ldz Y'^K) X')≤192+(1+K*192):=jH gX hpw;have lS:=jK (ldz Y'^K) X';have szq:∀{L:List Int},hgt L≤192+K*(192+1)→∀i,sz (L.getD i 0).natAbs≤100:=λh i=>Nat.le_trans (mX h i) om
 refine c1 (nC ((hq.rb (szq hz.1)).ext (e8.trans e9)) dcd om) λs7 w10 e10 h7=>?_
 rw [show ae Q=Q from kI hnm.1] at h7;have e810:=(e8.trans e9).trans e10;have bm:bl (min Q.length Y'.length)≤8:=bh om;refine c1 (xa h7.rq (ht1.ext e810) ⟨om,om,om⟩) λs8 w11 e11 h8=>?_
 have e811:=e810.trans e11;refine c1 (nC ((hr.rb (szq hz.2)).ext e811) dcd om) λs9 w12 e12 h9=>?_
 rw [show ae R=R from kI hnm.2] at h9;have gP:=aaD Q Y'
 have lP:(pmt Q Y').length≤Q.length+Y'.length:=by
  refine Nat.le_trans (ak _) ?_;by_cases hQ:Q=[]
  ·subst hQ;simp [pm]
  ·rw [tA hY hQ];omega
 refine c1 (rI (h8.ext e12) h9.rq om om om om) λs10 w13 e13' h10=>?_
 have gA:hgt (Ad (pmt Q Y') R)≤3100+1:=xK (Nat.le_trans gP om) (Nat.le_trans hz.2 om);have lA:=yh (pmt Q Y') R;have e913:=((e10.trans e11).trans e12).trans e13';have e813:=(e8.trans e9).trans e913;refine j1 (λ(x:Bool) w16=>x=true∧Ext aa w13 w16) ?_ ?_
 ·refine c1 (rG (h6.ext e913) h10 om om om om) λs11 w14 e14' h11=>?_
  have hz0:Sb (Sc (ldz Y'^K) X') (Ad (pmt Q Y') R)=[]:=(Nm.trim _).ext (λz hz=>by simp at hz) λi=>by
   show (Sb _ _).getD i 0=_;have:=hpd.eq i;rw [lf,jL,pb,jx];unfold ldz;rw [Int.mul_comm,this];simp
  rw [hz0] at h11;have n11:=h11.len;refine bf (by rw [n11];rfl) ?_;exact vC (hE6.gl.ext (e813.trans e14')) λw15 e15=>⟨rfl,e14'.trans e15⟩
 rintro x w16 ⟨rfl,e16⟩;refine rt1 (c:=.bool) true ?_ rfl;exact e14.own (x6.trans (e813.trans e16).any) λc hc=>by subst hc;exact Nat.le_trans e13.size htt
end Go.Proofs.YtpbimnlggalnfaaGreatDoor.Zg
