/- A part of the proofs of this seat's laws. -/
import Derived.Test.YtpbimnlggalnfaaGreatDoorGZK
import Derived.Test.YtpbimnlggalnfaaGreatDoorGA
import Derived.Test.YtpbimnlggalnfaaGreatDoorGMA
import Derived.Test.YtpbimnlggalnfaaGreatDoorGMB
import Derived.Test.YtpbimnlggalnfaaGreatDoorGMD
import Derived.Test.YtpbimnlggalnfaaGreatDoorGME
import Derived.Test.YtpbimnlggalnfaaGreatDoorGKA
import Derived.Test.YtpbimnlggalnfaaGreatDoorGKE
import Derived.Test.YtpbimnlggalnfaaGreatDoorGIA
import Derived.Test.YtpbimnlggalnfaaGreatDoorGKC
import Derived.Test.YtpbimnlggalnfaaGreatDoorGHA
import Derived.Test.YtpbimnlggalnfaaGreatDoorGB
import Derived.Test.YtpbimnlggalnfaaGreatDoorGIB
import Derived.Test.YtpbimnlggalnfaaGreatDoorGJA
import Derived.Test.YtpbimnlggalnfaaGreatDoorGJB
import Derived.Test.YtpbimnlggalnfaaGreatDoorGJC
import Derived.Test.YtpbimnlggalnfaaGreatDoorGHD
import Derived.Test.YtpbimnlggalnfaaGreatDoorGHE
import Derived.Test.YtpbimnlggalnfaaGreatDoorGK
import Derived.Test.YtpbimnlggalnfaaGreatDoorGQ
import Derived.Test.YtpbimnlggalnfaaGreatDoorGMC
import Derived.Test.YtpbimnlggalnfaaGreatDoorGNA
import Derived.Test.YtpbimnlggalnfaaGreatDoorGNB
import Derived.Test.YtpbimnlggalnfaaGreatDoorGNC
import Derived.Test.YtpbimnlggalnfaaGreatDoorGND
import Derived.Test.YtpbimnlggalnfaaGreatDoorGZC
import Derived.Test.YtpbimnlggalnfaaGreatDoorGNE
import Derived.Test.YtpbimnlggalnfaaGreatDoorGP
import Derived.Test.YtpbimnlggalnfaaGreatDoorGP1
import Derived.Test.YtpbimnlggalnfaaGreatDoorGP2
import Derived.Test.YtpbimnlggalnfaaGreatDoorGP3
import Derived.Test.YtpbimnlggalnfaaGreatDoorGP4
import Derived.Test.YtpbimnlggalnfaaGreatDoorGP5
import Derived.Test.YtpbimnlggalnfaaGreatDoorGS
import Derived.Test.YtpbimnlggalnfaaGreatDoorGC
import Derived.Test.YtpbimnlggalnfaaGreatDoorGZA
import Derived.Test.YtpbimnlggalnfaaGreatDoorGZB
import Derived.Test.YtpbimnlggalnfaaGreatDoorGZD
import Derived.Test.YtpbimnlggalnfaaGreatDoorGZE
import Derived.Test.YtpbimnlggalnfaaGreatDoorGZG
import Derived.Test.YtpbimnlggalnfaaGreatDoorGZL
import Derived.Test.YtpbimnlggalnfaaGreatDoorGZM
import Derived.Test.YtpbimnlggalnfaaGreatDoorGNF
set_option linter.unusedVariables false
set_option linter.unusedSimpArgs false
set_option linter.unnecessarySimpa false
namespace Go.Proofs.YtpbimnlggalnfaaGreatDoor.Zg
open Go.RowKit
section
variable {A B La Lb f:Nat}
def okc:Nat→Nat→Nat→Nat→Nat→Bool
 | 0,_,Lb,A,_=>Lb == 0&&decide (A≤100000)
 | f+1,La,Lb,A,B=>decide (A≤100000)&&(Lb == 0 || (decide (B≤100000)&&decide (A+(La+1-Lb)*(B+1)≤200000)&&(decide (La≤6) || decide (A+2*B+1≤4280))&&(List.range Lb).all λr=>okc f Lb r B (A+(La+1-Lb)*(B+1))))
theorem ok8:∀La,La≤8→∀Lb,Lb≤8→okc Lb La Lb 195 195=true:=by decide +kernel
theorem ade(h:okc f La Lb A B=true):A≤100000:=by
 cases f with
 | zero=>simp only [okc,Bool.and_eq_true,decide_eq_true_eq] at h;exact h.2
 | succ f=>simp only [okc,Bool.and_eq_true,decide_eq_true_eq] at h;exact h.1
theorem aaV(h:okc (f+1) La Lb A B=true)(hb:0<Lb):A≤100000∧B≤100000∧A+(La+1-Lb)*(B+1)≤200000∧(¬La≤6→A+2*B+1≤4280)∧∀r,r<Lb→okc f Lb r B (A+(La+1-Lb)*(B+1))=true:=by
 simp only [okc,Bool.and_eq_true,Bool.or_eq_true,decide_eq_true_eq,beq_iff_eq,List.all_eq_true,List.mem_range] at h;obtain⟨h1,h2⟩:=h;rcases h2 with h2|⟨⟨⟨h3,h4⟩,h5⟩,h6⟩
 ·omega
 ·exact⟨h1,h3,h4,λh=>h5.resolve_left h,h6⟩
theorem tG:oR λxs ys=>Shw xs ys∨(Sht xs ys∧min (ae xs).length (ae ys).length≤3):=λhE ha hb hs h0 h1=>hs.elim (λh=>yV hE ha hb h h0 h1) λh=>yW hE ha hb h h0 h1
section
variable {w:TW} {p:Option Addr} {zd zm pz mo hg g po nu ra ro dv rc c m d k e t:Nat} {now:Int} {tab:List Int}
set_option maxHeartbeats 1000000 in
theorem pK{a b:Sl}{xs ys:List Int}(hE:Eg w p [zd,zm,pz,mo,hg,g,po,nu,ra,ro,dv,rc,c,m,d,k,e] t now tab)(ha:Ri w a xs)(hb:Ri w b ys)(hl:xs.length≤8)(hl2:ys.length≤8)(hA:hgt xs≤195)(hB:hgt ys≤195)(h0:0≤now)(h1:now≤1000000000000000000):
  Ct Pg F.ck [.pointer p,a.v,b.v] w (λk=>k=t) [.one .slice] λ(s:Sl) w'=>Oq (dg W64) w' w.w.heap.size T.af s (Sc (Nat.gcd (ctn (ae xs)) (ctn (ae ys)):Nat) (cmf (ae ys).length (ppz (ae xs)) (ppz (ae ys))))∧(cmf (ae ys).length (ppz (ae xs)) (ppz (ae ys))).length≤8∧Eg w' p [zd,zm,pz,mo,hg,g,po,nu,ra,ro,dv,rc,c,m,d,k,e] t now tab:=by
 refine Ct.ck ?_;unfold Sh.ck;have hz:∀(L:List Int) (n:Nat),hgt L≤n→n≤200000→∀i,sz (L.getD i 0).natAbs≤3126:=λL n h1 h2 i=>Nat.le_trans (kL h1 i) om
 have hE0:=hE.here;refine tM hE0.tz (l9 hE0 ha.here om (λi=>Nat.le_trans (hz _ _ hA om i) dcd) h0 h1) ?_;rintro r cn s w1 x1 ⟨hr,-,hs,hE1⟩;have hr:On w1 w.w.heap.size r (ctn (ae xs)):=hr;intro w2 e2 w3 e3;have e23:=e2.trans e3;have hE3:=hE1.ext e23;have hb3:=(hb.here.extT hE0.tz x1).ext e23;refine tM hE3.tz (l9 hE3 hb3 om (λi=>Nat.le_trans (hz _ _ hB om i) dcd) h0 h1) ?_;rintro r2 cn2 s1 w4 x4 ⟨hr2,-,hs1,hE4⟩;have hr2:On w4 w3.w.heap.size r2 (ctn (ae ys)):=hr2;intro w5 e5 w6 e6;have ed:=(e5.trans e6).drew;have hE6:=hE4.ext ed;have hX:Nm (ae xs):=Nm.trim xs;have hY:Nm (ae ys):=Nm.trim ys;have hXl:=ao xs;have hYl:=ao ys;have hXh:hgt (ae xs)≤195:=by rw [fJ];exact hA
 have hYh:hgt (ae ys)≤195:=by rw [fJ];exact hB
 obtain⟨X,hXd⟩:∃X,ae xs=X:=⟨_,rfl⟩;obtain⟨Y,hYd⟩:∃Y,ae ys=Y:=⟨_,rfl⟩;rw [hXd] at hr hs hX hXl hXh ⊢;rw [hYd] at hr2 hs1 hY hYl hYh ⊢;have y6:Xt1 t w3 w6.drew:=x4.trans ed.any;have z6:Xt1 t w.here w6.drew:=(x1.trans e23.any).trans y6;have hs6:=(hs.ext e23).extT hE3.tz y6;have hs16:=hs1.ext ed;have hr6:=(hr.nt.ext e23).extT hE3.tz y6;have hr26:=hr2.nt.ext ed;have szc:∀L:List Int,hgt L≤195→sz (ctn L)≤8192:=λL hL=>qh L 0 (by simp [sz,az]) λi=>Nat.le_trans (hz _ _ hL om i) dcd
 have szX:=szc X hXh;have szY:=szc Y hYh;refine hE6.down5 λ_ _ _ _ _ _ _ _ _ _ E5 H5=>?_
 refine nw2 hr6 hr26 λbb w7 h7 e7=>?_
 refine aN (H5.ext e7) ?_;have hE7:=hE6.ext e7;refine t1 hE7.tz (acB (l:=⟨some ⟨bb,0,none⟩,2,2⟩) (E5.ext e7) h7 (ym szX szY) smp h0 h1) ?_;rintro s2 w8 x8 ⟨h8,E8⟩;refine aN ((H5.ext e7).extT x8).tail ?_;have hE8:=hE7.re x8 E8;have h8:On w8 w7.w.heap.size s2 (Nat.gcd (ctn X) (ctn Y)):=by simpa [tn] using h8
 have hs8:=(hs6.ext e7).extT hE7.tz x8;have hs18:=(hs16.ext e7).extT hE7.tz x8;have z8:Xt1 t w.here w8:=z6.trans (e7.any.trans x8);refine j1 (λ(a7:Sl) w12=>Rq (dg W64) w12 a7 (cmf Y.length (ppz X) (ppz Y))∧hgt (cmf Y.length (ppz X) (ppz Y))≤100000∧(cmf Y.length (ppz X) (ppz Y)).length≤8∧Xt1 t w8 w12∧Eg w12 p [zd,zm,pz,mo,hg,g,po,nu,ra,ro,dv,rc,c,m,d,k,e] t now tab) ?_ ?_
 ·refine lp2 (λM (a6:Sl) (b2:Sl) w9=>∃(f A B:Nat) (P Q:List Int),M=Q.length∧Q.length≤f∧Q.length≤8∧P.length≤8∧Rq (dg W64) w9 a6 P∧Rq (dg W64) w9 b2 Q∧Nm P∧Nm Q∧hgt P≤A∧hgt Q≤B∧okc f P.length Q.length A B=true∧cmf f P Q=cmf Y.length (ppz X) (ppz Y)∧Xt1 t w8 w9∧Eg w9 p [zd,zm,pz,mo,hg,g,po,nu,ra,ro,dv,rc,c,m,d,k,e] t now tab) Y.length ⟨Y.length,195,195,ppz X,ppz Y,(fL Y).symm,by rw [fL];omega,by rw [fL];omega,by rw [fL];omega,hs8,hs18,lJ hX,lJ hY,vG hXh,vG hYh,by rw [fL,fL];exact ok8 _ om _ om,rfl,Ext.refl _ _,hE8⟩ ?_;rintro M a6 b2 w9 ⟨f,A,B,P,Q,rfl,hf,lQ,lP,hP,hQ,nP,nQ,gP,gQ,hG,hcm,x9,hE9⟩;have n2:=hQ.len;refine ac (λh=>?_) (λh=>?_)
  ·have hQp:0<Q.length:=om;have hQne:Q≠[]:=List.length_pos_iff.1 hQp;obtain⟨f,rfl⟩:∃f',f=f'+1:=⟨f-1,om⟩;have tP:ae P=P:=fE nP;have tQ:ae Q=Q:=fE nQ;obtain⟨hA1,hB1,hAB,hTk,hnx⟩:=aaV hG hQp;refine tM hE9.tz (uI (xs:=P) (ys:=Q) (A:=A) (B:=B) tG hE9 hP.ri hQ.ri om om (by rw [tP];omega) (by rw [tP];exact gP) (by rw [tQ];exact gQ) (by rw [tP,tQ];omega) om (λT j k0 k1 k2=>?_) h0 h1) ?_
   ·rw [tP,tQ] at k0 k1;rw [tQ];have k3:=Nat.mul_le_mul_right (B+1) (Nat.le_of_lt k0);by_cases hmin:min T.length Q.length≤3
    ·have:=ao T;have:=ao Q;exact .inr ⟨⟨om,om,om⟩,om⟩
    ·have hj1:j≤1:=om;have hP6:¬P.length≤6:=om;have h42:=hTk hP6;refine .inl (Shw.of om om ?_);have:j*(B+1)≤1*(B+1):=Nat.mul_le_mul_right _ hj1;omega
   rintro s3 s4 kk er w10 x10 ⟨-,hps,hE10⟩;rw [tP,tQ] at hps;obtain⟨-,-,-,h10⟩:=hps hQne;have gR:hgt (lI P Q)≤A+(P.length+1-Q.length)*(B+1):=(xf gP gQ _).2;have lR:=qY (b:=Q) nP hQne;have nR:=tc (b:=Q) nP;have tR:ae (lI P Q)=lI P Q:=fE nR;refine tM hE10.tz (l9 hE10 h10.ri om (λi=>Nat.le_trans (hz _ _ gR om i) dcd) h0 h1) ?_;rintro r3 cn3 s5 w11 x11 ⟨-,-,h11,hE11⟩;rw [tR] at h11;exact⟨_,by rw [fL];exact lR,f,_,_,Q,ppz (lI P Q),rfl,by rw [fL];omega,by rw [fL];omega,lQ,hQ.extT hE9.tz (x10.trans x11),h11,nQ,lJ nR,gQ,vG gR,by rw [fL];exact hnx _ lR,by rw [←hcm,rC hQne],x9.trans (x10.trans x11),hE11⟩
  ·have:Q=[]:=List.length_eq_zero_iff.1 om;subst this;rw [rD] at hcm;rw [←hcm];exact⟨hP,Nat.le_trans gP (ade hG),lP,x9,hE9⟩
 rintro a7 w12 ⟨h12,g12,l12,x12,hE12⟩;obtain⟨C,hC⟩:∃C,cmf Y.length (ppz X) (ppz Y)=C:=⟨_,rfl⟩;rw [hC] at h12 g12 l12 ⊢;refine hE12.down2z λ_ _ _ _ _ E2 H2=>?_
 have hg:Iz w12 s2 false ((Nat.gcd (ctn X) (ctn Y):Nat):Int):=⟨_,(h8.nt.extT hE8.tz x12),smp⟩;refine t1 hE12.tz (jZ E2 h12.ri hg om (λi=>Nat.le_trans (hz _ _ g12 om i) dcd) (by rw [Int.natAbs_natCast];exact Nat.le_trans (wT szX szY) dcd) h0 h1) ?_;rintro s6 w13 x13 ⟨h13,E13⟩;exact rt1 (c:=.slice) _ (z8.trans (x12.trans x13)) ⟨(h13.less (z8.trans x12).size).at,l12,(hE12.re x13 E13).at⟩
end
end
def sdz(x0:Int):List Int→List Int
 | []=>[]
 | [_]=>[]
 | _::b::l=>ak x0 (b::l)::sdz x0 (b::l)
theorem sT(x0:Int):∀l,(sdz x0 l).length=l.length-1
 | []=>rfl
 | [_]=>rfl
 | _::b::l=>by rw [sdz,List.length_cons,sT x0 (b::l)];simp
theorem qp(x0 y:Int):∀l,ak y l=ak x0 l+(y-x0)*ak y (sdz x0 l)
 | []=>by simp [ak,sdz]
 | [a]=>by simp [ak,sdz]
 | a::b::l=>by
  have ih:=qp x0 y (b::l);rw [sdz];generalize hq:sdz x0 (b::l)=q at*;generalize b::l=m at*;simp only [ak];rw [ih];grind
theorem xa(x0:Int)(l:List Int)(i:Nat):l.getD i 0=[ak x0 l].getD i 0+(0::sdz x0 l).getD i 0+-x0*(sdz x0 l).getD i 0:=by
 have:=jc l (dT [ak x0 l] (dT (0::sdz x0 l) ((sdz x0 l).map (-x0*·)))) (λB _=>by
  rw [jR,jR,kA,qp x0 B l];simp only [ak];grind) i
 rw [this,bK,bK,aZ smp];omega
theorem o9{B:Int}:∀{a b:List Int},(∀i,a.getD i 0=b.getD i 0)→ak B a=ak B b
 | [],[],_=>rfl
 | [],y::b,h=>by
  have h0:=h 0;have:=o9 (B:=B) (a:=[]) (b:=b) λi=>by simpa using h (i+1)
  simp only [List.getD_nil,List.getD_cons_zero] at h0;simp only [ak] at this ⊢;rw [←this,←h0];simp
 | x::a,[],h=>by
  have h0:=h 0;have:=o9 (B:=B) (a:=a) (b:=[]) λi=>by simpa using h (i+1)
  simp only [List.getD_nil,List.getD_cons_zero] at h0;simp only [ak] at this ⊢;rw [this,h0];simp
 | x::a,y::b,h=>by
  have h0:=h 0;have:=o9 (B:=B) (a:=a) (b:=b) λi=>by simpa using h (i+1)
  simp only [List.getD_cons_zero] at h0;simp only [ak];rw [this,h0]
theorem ue:∀{L V:Nat} {g xs:List Int},g.length≤L→L≤xs.length→xs.Nodup→(∀x∈xs,0≤x∧x≤15∧(ak x g).natAbs≤V)→∀i,(g.getD i 0).natAbs≤33^L*V
 | 0,V,g,xs,hg,hx,hn,hv,i=>by
  have:g=[]:=List.length_eq_zero_iff.1 om;subst this;simp
 | L+1,V,g,[],hg,hx,hn,hv,i=>by simp at hx
 | L+1,V,g,x0::xs,hg,hx,hn,hv,i=>by
  obtain⟨h1,h2,h3⟩:=hv x0 smp;rw [List.nodup_cons] at hn
  have ih:=ue (L:=L) (V:=2*V) (g:=sdz x0 g) (xs:=xs) (by rw [sT];omega) (by simpa using hx) hn.2 λy hy=>by
   obtain⟨k1,k2,k3⟩:=hv y (by simp [hy]);refine⟨k1,k2,?_⟩;have hne:y≠x0:=λe=>hn.1 (e▸hy)
   have e:=qp x0 y g
   have e2:((y-x0)*ak y (sdz x0 g)).natAbs≤2*V:=by
    have:(y-x0)*ak y (sdz x0 g)=ak y g-ak x0 g:=om;rw [this];omega
   rw [Int.natAbs_mul] at e2;exact Nat.le_trans (Nat.le_mul_of_pos_left _ om) e2
  have hq:∀j,((sdz x0 g).getD j 0).natAbs≤33^L*(2*V):=ih;have hp:=(Nat.pow_pos dcd:0<33^L);rw [xa x0 g i]
  have a1:([ak x0 g].getD i 0).natAbs≤V:=by
   cases i with
   | zero=>exact h3
   | succ i=>simp
  have a2:((0::sdz x0 g).getD i 0).natAbs≤33^L*(2*V):=by
   cases i with
   | zero=>simp
   | succ i=>simpa using hq i
  have a3:(-x0*(sdz x0 g).getD i 0).natAbs≤15*(33^L*(2*V)):=by
   rw [Int.natAbs_mul];exact Nat.mul_le_mul om (hq i)
  have e:33^(L+1)*V=33*(33^L*V):=by rw [Nat.pow_succ,Nat.mul_comm (33^L) 33,Nat.mul_assoc]
  have e2:33^L*(2*V)=2*(33^L*V):=by rw [Nat.mul_left_comm]
  have e3:V≤33^L*V:=Nat.le_mul_of_pos_left _ hp;rw [e2] at a2 a3;rw [e];omega
theorem uU:∀{n:Nat} {p xs:List Int},p.length≤n→(∃i,p.getD i 0≠0)→xs.Nodup→(∀x∈xs,ak x p=0)→xs.length<n
 | 0,p,xs,hp,h0,hn,hr=>by
  have:p=[]:=List.length_eq_zero_iff.1 om;subst this;obtain⟨i,hi⟩:=h0;simp at hi
 | n+1,p,[],hp,h0,hn,hr=>by simp
 | n+1,p,x0::xs,hp,h0,hn,hr=>by
  rw [List.nodup_cons] at hn;have hx0:=hr x0 smp
  have:=uU (n:=n) (p:=sdz x0 p) (xs:=xs) (by rw [sT];omega) (by
   refine Classical.not_forall_not.1 λhz=>?_
   obtain⟨i,hi⟩:=h0;refine hi ?_;have hz:∀j,(sdz x0 p).getD j 0=0:=λj=>Classical.not_not.1 (hz j)
   rw [xa x0 p i,hx0,hz];cases i with
   | zero=>simp
   | succ i=>simpa using hz i) hn.2 λy hy=>by
    have e:=qp x0 y p;rw [hr y (by simp [hy]),hx0] at e;have hne:y≠x0:=λe=>hn.1 (e▸hy)
    rcases Int.mul_eq_zero.1 (show (y-x0)*ak y (sdz x0 p)=0 by omega) with h|h
    ·omega
    ·exact h
  simp only [List.length_cons];omega
theorem rU{M:Nat}{x:Int}(h0:0≤x)(h1:x≤15):∀{l:List Int},(∀i,(l.getD i 0).natAbs≤M)→(ak x l).natAbs≤M*16^l.length
 | [],_=>by simp [ak]
 | a::l,h=>by
  have ih:=rU (x:=x) h0 h1 (l:=l) λi=>by simpa using h (i+1)
  have ha:=h 0;simp only [List.getD_cons_zero] at ha;simp only [ak,List.length_cons];have e:M*16^(l.length+1)=16*(M*16^l.length):=by rw [Nat.pow_succ,←Nat.mul_assoc,Nat.mul_comm]
  have hp:=(Nat.pow_pos dcd:0<16^l.length);have e2:M≤M*16^l.length:=Nat.le_mul_of_pos_right _ hp
  have e3:(x*ak x l).natAbs≤15*(M*16^l.length):=by
   rw [Int.natAbs_mul];exact Nat.mul_le_mul om ih
  rw [e];omega
def nds:List Int:=[0,1,2,3,4,5,6,7,8,9,10,11,12,13,14,15]
theorem zF:nds.Nodup:=by decide +kernel
theorem ad5:∀x∈nds,0≤x∧x≤15:=by decide +kernel
theorem sH(P:Int→Bool):∀R:List Int,(R.filter P).length+(R.filter λx=>!P x).length=R.length
 | []=>rfl
 | a::l=>by
  have ih:=sH P l;by_cases h:P a<;>simp [h]<;>omega
theorem ad0:33^8<2^48:=dcd
theorem ad1:(16:Nat)^8≤2^32:=dcd
theorem adB{g p:List Int}{H:Nat}(h:Dz g p)(hp:Nm p)(h0:p≠[])(lp:p.length≤8)(lg:g.length≤8)(hh:hgt p≤H):hgt g≤H+80:=by
 obtain⟨R,hR⟩:∃R:List Int,R=nds:=⟨_,rfl⟩;have hRn:R.Nodup:=hR▸zF
 have hRb:∀x∈R,0≤x∧x≤15:=hR▸ad5
 have h16:R.length=16:=by rw [hR];rfl
 clear hR;have hl:=sH (λx=>decide (ak x p=0)) R;have hr:=uU (n:=8) (xs:=R.filter λx=>decide (ak x p=0)) lp ⟨_,hp.get h0⟩ (hRn.filter _) λx hx=>by simpa using (List.mem_filter.1 hx).2
 obtain⟨f,hf⟩:=h
 have hb:=ue (L:=8) (V:=2^(H+32)) (g:=g) (xs:=R.filter λx=>!decide (ak x p=0)) lg om (hRn.filter _) λx hx=>by
  obtain⟨k1,k2⟩:=List.mem_filter.1 hx;obtain⟨b1,b2⟩:=hRb x k1;refine⟨b1,b2,?_⟩;have hne:ak x p≠0:=by simpa using k2
  have hv:ak x p=ak x f*ak x g:=by rw [o9 hf,dZ]
  have h1:(ak x g).natAbs≤(ak x p).natAbs:=by
   rw [hv,Int.natAbs_mul];refine Nat.le_mul_of_pos_left _ ?_;have:ak x f≠0:=λe=>hne (by rw [hv,e];simp)
   omega
  have h2:=rU b1 b2 (M:=2^H) (l:=p) λi=>Nat.le_of_lt (fM (bp hh i))
  have h3:(16:Nat)^p.length≤2^32:=Nat.le_trans (Nat.pow_le_pow_right dcd lp) ad1;have e32:2^(H+32)=2^H*2^32:=Nat.pow_add ..;rw [e32];exact Nat.le_trans h1 (Nat.le_trans h2 (Nat.mul_le_mul_left _ h3))
 have e:2^(H+80)=2^48*2^(H+32):=by rw [←Nat.pow_add,show 48+(H+32)=H+80 by omega]
 refine dW λi=>aY (Nat.lt_of_le_of_lt (hb i) ?_)
 rw [e];generalize 2^(H+32)=V at*
 have hV:0<V:=by
  rcases Nat.eq_zero_or_pos V with h|h
  ·have:=Nat.two_pow_pos (H+80);rw [e,h,Nat.mul_zero] at this;exact absurd this (Nat.lt_irrefl 0)
  ·exact h
 exact Nat.mul_lt_mul_of_pos_right ad0 hV
section
variable {a:List Int}
def cgz(P Q:List Int):List Int:=Sc (Nat.gcd (ctn P) (ctn Q):Nat) (cmf Q.length (ppz P) (ppz Q))
theorem aek{c:Int}(hc:c≠0)(ha:Nm a):Sc c a=a.map (·*c):=(Nm.trim _).ext (yf λh=>by
 rw [List.length_map,aZ smp];exact Int.mul_ne_zero (ha.get λe=>h (by rw [e];rfl)) hc) λi=>by
 show (Sc c a).getD i 0=_;rw [iB,aZ smp]
theorem zu(a:List Int):Dz (ppz a) a:=(Dz.refl (ppz a)).scale (cpz a) |>.congr (nn a)
theorem Dz.ctn{d:List Int}(h:Dz d a):Zg.ctn d ∣ Zg.ctn a:=by
 obtain⟨h,hh⟩:=h;refine qB λi=>?_
 rw [hh,ii];refine Int.ofNat_dvd_left.1 (wc λu _=>?_);exact Int.dvd_trans (Int.ofNat_dvd_left.2 (qC d (i-u))) (Int.dvd_mul_left _ _)
section
variable {P Q:List Int}
theorem vV(hP:Nm P)(hQ:Nm Q)(h0:P≠[]∨Q≠[]):Nm (cmf Q.length (ppz P) (ppz Q))∧cmf Q.length (ppz P) (ppz Q)≠[]∧ctn (cmf Q.length (ppz P) (ppz Q))=1∧0<ldz (cmf Q.length (ppz P) (ppz Q))∧∀d,ctn d=1→(Dz d (cmf Q.length (ppz P) (ppz Q))↔Dz d P∧Dz d Q):=by
 obtain⟨h1,h2,h3⟩:=xG (n:=Q.length) (lJ hP) (lJ hQ) (qt hP) (qt hQ);have h4:=h3 (h0.imp vg vg) (by rw [fL];exact Nat.le_refl _);obtain⟨h5,h6⟩:=h1.resolve_left h4;exact⟨h2,h4,h5,h6,λd hd=>by rw [aaq hd (lJ hP) (lJ hQ) (by rw [fL];exact Nat.le_refl _),←Dz.pp hd hP,←Dz.pp hd hQ]⟩
theorem adK(hP:Nm P)(hQ:Nm Q)(h0:P≠[]∨Q≠[]):0<Nat.gcd (ctn P) (ctn Q):=by
 rcases h0 with h|h
 ·exact Nat.gcd_pos_of_pos_left _ (oP hP h)
 ·exact Nat.gcd_pos_of_pos_right _ (oP hQ h)
theorem aat(hP:Nm P)(hQ:Nm Q)(h0:P≠[]∨Q≠[]):Nm (cgz P Q)∧cgz P Q≠[]∧0<ldz (cgz P Q):=by
 obtain⟨h1,h2,h3,h4,-⟩:=vV hP hQ h0;have hg:=adK hP hQ h0;unfold cgz;generalize cmf Q.length (ppz P) (ppz Q)=C at*;have e:=aek (c:=(Nat.gcd (ctn P) (ctn Q):Nat)) om h1;refine⟨Nm.trim _,λh=>h2 ?_,?_⟩
 ·rw [e] at h;exact List.map_eq_nil_iff.1 h
 ·rw [e];unfold ldz at h4 ⊢;rw [List.length_map,aZ smp];exact Int.mul_pos h4 om
theorem vU{R:List Int}(hP:Nm P)(hQ:Nm Q)(h0:P≠[]∨Q≠[])(hR:R=P∨R=Q):Dz (cgz P Q) R:=by
 obtain⟨h1,h2,h3,h4,h5⟩:=vV hP hQ h0;have hd:=(h5 _ h3).1 (Dz.refl _);have hRn:Nm R:=by rcases hR with rfl|rfl<;>assumption
 have hdR:Dz (cmf Q.length (ppz P) (ppz Q)) R:=by rcases hR with rfl|rfl;exact hd.1;exact hd.2
 have hdv:((Nat.gcd (ctn P) (ctn Q):Nat):Int) ∣ cpz R:=by
  refine Int.ofNat_dvd_left.2 ?_;rw [kC];rcases hR with rfl|rfl
  ·exact Nat.gcd_dvd_left _ _
  ·exact Nat.gcd_dvd_right _ _
 unfold cgz;generalize cmf Q.length (ppz P) (ppz Q)=C at*;generalize Nat.gcd (ctn P) (ctn Q)=U at*;obtain⟨e,he⟩:=hdv;obtain⟨f,hf⟩:=(Dz.pp h3 hRn).1 hdR;refine⟨f.map (e*·),λi=>?_⟩;rw [nn R i,aZ smp,hf,no,fT (a:=f) (a':=f) (b:=Sc U C) (b':=C.map ((U:Int)*·)) (λ_=>rfl) (λj=>by rw [iB,aZ smp,Int.mul_comm]),vj,he];rw [Int.mul_comm (U:Int) e,Int.mul_assoc]
theorem adJ{Z:List Int}(hP:Nm P)(hQ:Nm Q)(h0:P≠[]∨Q≠[])(hZ:Nm Z)(hZ0:Z≠[])(h1:Dz Z P)(h2:Dz Z Q):Dz Z (cgz P Q):=by
 obtain⟨-,-,-,-,h5⟩:=vV hP hQ h0;have hc1:ctn (ppz Z)=1:=((qt hZ).resolve_left (vg hZ0)).1;obtain⟨k,hk⟩:=(h5 _ hc1).2 ⟨(zu Z).trans h1,(zu Z).trans h2⟩
 have hdv:cpz Z ∣ ((Nat.gcd (ctn P) (ctn Q):Nat):Int):=by
  rw [←Int.natAbs_dvd,kC];exact Int.ofNat_dvd.2 (Nat.dvd_gcd h1.ctn h2.ctn)
 unfold cgz;generalize cmf Q.length (ppz P) (ppz Q)=C at*;generalize Nat.gcd (ctn P) (ctn Q)=U at*;obtain⟨e,he⟩:=hdv;refine⟨k.map (e*·),λi=>?_⟩;rw [iB,hk,no,fT (a:=k) (a':=k) (b:=Z) (b':=(ppz Z).map (cpz Z*·)) (λ_=>rfl) (nn Z),vj,he];grind
theorem abB(hP:Nm P)(hQ:Nm Q):cgz P Q=cgz Q P:=by
 by_cases h0:P≠[]∨Q≠[]
 ·obtain⟨a1,a2,a3,a4,a5⟩:=vV hP hQ h0;obtain⟨b1,b2,b3,b4,b5⟩:=vV hQ hP h0.symm
  have e:cmf Q.length (ppz P) (ppz Q)=cmf P.length (ppz Q) (ppz P):=
   acn a1 b1 (.inr ⟨a3,a4⟩) (.inr ⟨b3,b4⟩) ((b5 _ a3).2 ((a5 _ a3).1 (Dz.refl _)).symm) ((a5 _ b3).2 ((b5 _ b3).1 (Dz.refl _)).symm) a2 b2
  unfold cgz;rw [e,Nat.gcd_comm]
 ·have h1:P=[]:=Classical.not_not.1 λh=>h0 (.inl h)
  have h2:Q=[]:=Classical.not_not.1 λh=>h0 (.inr h)
  subst h1 h2;rfl
theorem adz{g:List Int}(hg:Nm g)(hg0:g≠[])(hP:Nm P)(h:Dz g P):∃q,exz g (P.length+1-g.length) P []=some q:=by
 obtain⟨f,hf⟩:=h;obtain⟨q,hq,-⟩:=ady hg0 hg (n:=P.length+1-g.length) (d:=ae f) (r:=P) (q:=[]) (Nm.trim f) hP (λi=>(hf i).trans (fT (λj=>(aT f j).symm) (λ_=>rfl) i)) (by have:=List.length_pos_iff.2 hg0;omega);exact⟨q,hq⟩
theorem aas{H:Nat}(hP:Nm P)(hQ:Nm Q)(h0:P≠[]∨Q≠[])(lP:P.length≤8)(lQ:Q.length≤8)(gP:hgt P≤H)(gQ:hgt Q≤H):(cgz P Q).length≤8∧hgt (cgz P Q)≤H+80:=by
 obtain⟨n1,n2,-⟩:=aat hP hQ h0
 have key:∀R,(R=P∨R=Q)→Nm R→R≠[]→R.length≤8→hgt R≤H→(cgz P Q).length≤8∧hgt (cgz P Q)≤H+80:=λR hR hRn hR0 lR gR=>by
  have hd:=vU hP hQ h0 hR;obtain⟨f,f1,f2,-,fl,-,-⟩:=hd.len n1 hRn hR0;have:=List.length_pos_iff.2 f2;have lg:(cgz P Q).length≤8:=om;exact⟨lg,adB hd hRn hR0 lR lg gR⟩
 rcases h0 with h|h
 ·exact key P (.inl rfl) hP h lP gP
 ·exact key Q (.inr rfl) hQ h lQ gQ
end
end
theorem aco(a b:List Int)(h:a=[]∨b=[])(i:Nat):(pm a b).getD i 0=0:=by
 rw [ii];refine (Sg.congr (g:=λ_=>0) λu _=>?_).trans (Sg.zero _);rcases h with h|h<;>subst h<;>simp
theorem xi{X Z:List Int}(h1:X.length≤5)(h2:Z.length≤4):(pmt X Z).length≤8:=by
 refine (lM X Z).len_le λi hi=>?_
 rw [iZ,ii];refine (Sg.congr (g:=λ_=>0) λu _=>?_).trans (Sg.zero _);rcases Nat.lt_or_ge u X.length with h|h
 ·rw [gtb (l:=Z) om,Int.mul_zero]
 ·rw [gtb (l:=X) h,Int.zero_mul]
set_option maxHeartbeats 2000000 in
theorem aaz{w:TW}{t u:HL I11}{a b c0:Sl}{zs ys us:List Int}(hG:Gl w)(ha:Ri w a zs)(hb:Ri w b ys)(hc:Ri w c0 us):Ct Pg F.bE [.agg (aM I11 t).toArray,.agg (aM I11 u).toArray,a.v,b.v,c0.v] w aa [.one .bool] λ(r:Bool) _=>r=true:=by
 refine Ct.bE ?_;unfold Sh.bE;intro w1 e1 w2 e2;have e12:=e1.trans e2;refine c2 (qd (n:=5) (k:=2) (ha.here.ext e12) dcd dcd) ?_;rintro s s1 w3 e3 ⟨X,lx,hs,hs1⟩;refine c2 (qd (n:=5) (k:=2) ((hb.here.ext e12).ext e3) dcd dcd) ?_;rintro s2 s3 w4 e4 ⟨Y,ly,ht,ht1⟩;refine c2 (qd (n:=4) (k:=1) (((hc.here.ext e12).ext e3).ext e4) dcd dcd) ?_;rintro s4 s5 w5 e5 ⟨Z,lz,hu,hu1⟩;have gX:hgt (ae X)≤128:=uY hs;have gY:hgt (ae Y)≤128:=uY ht;have gZ:hgt (ae Z)≤64:=uY hu;have lX:=ao X;have lY:=ao Y;have lZ:=ao Z;have nZ:Nm (ae Z):=Nm.trim Z;generalize ae X=X at*;generalize ae Y=Y at*;generalize ae Z=Z at*;refine c1 (tJ (hs1.ext (e4.trans e5)) hu1 ⟨om,om,om⟩) λs6 w6 e6 h6=>?_
 refine c1 (tJ (ht1.ext (e5.trans e6)) (hu1.ext e6) ⟨om,om,om⟩) λs7 w7 e7 h7=>?_
 have bz:∀q:Nat,bl (min q Z.length)≤3:=λq=>aY om
 have gP:hgt (pmt X Z)≤195:=by have:=xj X Z;have:=bz X.length;omega
 have gQ:hgt (pmt Y Z)≤195:=by have:=xj Y Z;have:=bz Y.length;omega
 have lP:(pmt X Z).length≤8:=xi om om;have lQ:(pmt Y Z).length≤8:=xi om om;have nP:Nm (pmt X Z):=lM _ _;have nQ:Nm (pmt Y Z):=lM _ _;have dP:Dz Z (pmt X Z):=⟨X,λi=>iZ _ _ i⟩;have dQ:Dz Z (pmt Y Z):=⟨Y,λi=>iZ _ _ i⟩;have zP:Z=[]→pmt X Z=[]:=λh=>nP.ext (λz hz=>by simp at hz) λi=>by rw [iZ,aco _ _ (.inr h)];simp
 generalize pmt X Z=P at*;generalize pmt Y Z=Q at*;have tP:ae P=P:=fE nP;have tQ:ae Q=Q:=fE nQ;have tZ:ae Z=Z:=fE nZ;have e17:=(((((e12.trans e3).trans e4).trans e5).trans e6).trans e7).drew;refine sR (t:=t) (hG.here.ext e17) λp w8 zd zm pz mo hg gc po nu ra ro dv rc c m d k e tt tab e8 hE htt hp=>?_
 have e18:=e17.trans e8;refine sR (t:=u) (hG.here.ext e18) λp1 w9 fa fb fc fd fe ff fg fh fi fj fk fl fm fn fo fp fq uu tabu e9 hF huu hp1=>?_
 have hlt8:=hE.tz.lt;have hE:=hE.ext e9;have hne:tt≠uu:=om;have e19:=e18.trans e9
 have farE:∀{v v':TW},Ext aa w.here v→Xt1 tt v v'→Ext aa w.here v':=λh x=>h.own x λc hc=>by
  have q1:w.here.w.heap.size≤w7.drew.w.heap.size:=e17.size;rw [hc];omega
 have farF:∀{v v':TW},Ext aa w.here v→Xt1 uu v v'→Ext aa w.here v':=λh x=>h.own x λc hc=>by
  have q1:w.here.w.heap.size≤w8.w.heap.size:=e18.size;rw [hc];omega
 refine j1 (λ(x:Bool) w10=>x=false∧w10=w9) (ap hp ⟨hp1,rfl⟩) ?_;rintro x w10 ⟨rfl,rfl⟩;refine ap rfl ?_;have e710:Ext aa w7 w10:=((Ext.refl _ _).drew.trans e8).trans e9;have h6:=h6.ext (e7.trans e710);have h7:=h7.ext e710;have hu1:=hu1.ext ((e6.trans e7).trans e710);have n6:=h6.len;have n7:=h7.len;refine c1 (qX h6 om λi=>Nat.le_trans (vH gP i) dcd) λs8 w11 e11 h8=>?_
 refine c1 (qX (h7.ext e11) om λi=>Nat.le_trans (vH gQ i) dcd) λs9 w12 e12' h9=>?_
 have e112:=e11.trans e12';have hE12:=hE.ext e112;have hF12:=hF.ext e112;have h8:=h8.rq.ext e12';have h9:=h9.rq;have hu12:=hu1.ext e112;have f12:=e19.trans e112;refine t1 hE12.tz (pK hE12 h8.ri h9.ri om om gP gQ dcd dcd) ?_;rintro s10 w13 x13 ⟨h10,-,hE13⟩;rw [tP,tQ] at h10;have h10:Rq (dg W64) w13 s10 (cgz P Q):=h10.rq;have n10:=h10.len;have f13:=farE f12 x13;by_cases h0:¬(P≠[]∨Q≠[])
 ·have p0:P=[]:=Classical.not_not.1 λh=>h0 (.inl h)
  have q0:Q=[]:=Classical.not_not.1 λh=>h0 (.inr h)
  refine aQ (by rw [n10,p0,q0];rfl) ?_;refine j1 (λ(x:Bool) w15=>x=true∧Ext aa w13 w15) ?_ ?_
  ·refine aQ (by rw [n6,p0];rfl) (aQ (by rw [n7,q0];rfl) ?_);exact acW hE13.gl λw14 e14=>⟨rfl,e14⟩
  rintro x w15 ⟨rfl,e15⟩;exact rt1 (c:=.bool) true (f13.trans e15) rfl
 rw [Classical.not_not] at h0;obtain⟨g1,g2,g3⟩:=aat nP nQ h0;obtain⟨lg,gg⟩:=aas nP nQ h0 lP lQ gP gQ;have dgP:=vU nP nQ h0 (.inl rfl:P=P∨P=Q);have dgQ:=vU nP nQ h0 (.inr rfl:Q=P∨Q=Q);have hsw:=abB nP nQ;have dgZ:Z≠[]→Dz Z (cgz P Q):=λh=>adJ nP nQ h0 nZ h dP dQ
 generalize cgz P Q=g at*;have tg:ae g=g:=fE g1;have hgp:=List.length_pos_iff.2 g2;refine ap (by rw [n10];simp;exact g2) ?_
 have ex:∀{v:TW} {x y:Sl} {U V:List Int} {KK:Sl→Int→TW→Prop},Eg v p [zd,zm,pz,mo,hg,gc,po,nu,ra,ro,dv,rc,c,m,d,k,e] tt 0 tab→Rq (dg W64) v x U→Rq (dg W64) v y V→Nm U→Nm V→V≠[]→U.length≤8→V.length≤8→hgt U≤275→hgt V≤275→Dz V U→(∀s v',Xt1 tt v v'→Eg v' p [zd,zm,pz,mo,hg,gc,po,nu,ra,ro,dv,rc,c,m,d,k,e] tt 0 tab→KK s 0 v')→cl Pg F.bk [.pointer p,x.v,y.v] v [.one .slice,.one (.int .i64)] KK:=by
  intro v x y U V KK hv hx hy nU nV hV0 lU lV gU gV hd hK;have tU:ae U=U:=fE nU;have tV:ae V=V:=fE nV;have hVp:=List.length_pos_iff.2 hV0
  refine tM hv.tz (ul (A:=275) (B:=275) tG (pw aam) hv hx.ri hy.ri om om (by rw [tU];exact gU) (by rw [tV];exact gV) (by rw [tU,tV];omega) dcd (λT h1 h2=>by
   rw [tU,tV] at h1 h2;rw [tV];exact .inl (Shw.of om om om)) (λz hz=>?_) dcd dcd) ?_
  ·rw [tU,tV] at hz;have:=eV hz;exact⟨om,.inl om⟩
  ·rintro s' er v' xv ⟨-,k2,hv'⟩;rw [tU,tV] at k2;obtain⟨q,hq⟩:=adz nV hV0 nU hd;obtain⟨rfl,-⟩:=(k2 hV0).2 q hq;exact hK s' v' xv hv'
 have h8:=h8.extT hE12.tz x13;have h9:=h9.extT hE12.tz x13;have hu13:=hu12.extT hE12.tz x13;have hF13:=hF12.other hE12.tz (λh=>hne h.symm) x13;refine ex hE13 h8 h10 nP g1 g2 lP lg om gg dgP λs11 w16 x16 hE16=>?_
 have h816:=h8.extT hE13.tz x16;have h916:=h9.extT hE13.tz x16;have h1016:=h10.extT hE13.tz x16;have hu16:=hu13.extT hE13.tz x16;have hF16:=hF13.other hE13.tz (λh=>hne h.symm) x16;have f16:=farE f13 x16;refine ex hE16 h916 h1016 nQ g1 g2 lQ lg om gg dgQ λs12 w17 x17 hE17=>?_
 have h817:=h816.extT hE16.tz x17;have h917:=h916.extT hE16.tz x17;have h1017:=h1016.extT hE16.tz x17;have hu17:=hu16.extT hE16.tz x17;have hF17:=hF16.other hE16.tz (λh=>hne h.symm) x17;have f17:=farE f16 x17;have nu:=hu17.len;refine j1 (λ(kk:Int) w20=>kk=0∧Ext aa w.here w20∧Rq (dg W64) w20 s8 P∧Rq (dg W64) w20 s9 Q∧Rq (dg W64) w20 s10 g∧Eg w20 p1 [fa,fb,fc,fd,fe,ff,fg,fh,fi,fj,fk,fl,fm,fn,fo,fp,fq] uu 0 tabu) ?_ ?_
 ·refine ac (λh=>?_) (λ_=>⟨rfl,f17,h817,h917,h1017,hF17⟩);have hZ0:Z≠[]:=λe=>by rw [nu,e] at h;simp at h
  refine c1 (qX hu17 om λi=>Nat.le_trans (vH gZ i) dcd) λs13 w18 e18' h13=>?_
  refine ex (hE17.ext e18') (h1017.ext e18') h13.rq g1 nZ hZ0 lg om gg om (dgZ hZ0) λs14 w19 x19 hE19=>?_
  have hT:=(hE17.ext e18').tz;exact⟨rfl,farE (f17.trans e18') x19,(h817.ext e18').extT hT x19,(h917.ext e18').extT hT x19,(h1017.ext e18').extT hT x19,(hF17.ext e18').other hT (λh=>hne h.symm) x19⟩
 rintro kk w20 ⟨rfl,f20,h820,h920,h1020,hF20⟩;refine j1 (λ(x:Bool) w24=>x=true∧Ext aa w.here w24) ?_ ?_
 ·refine aQ rfl (aQ rfl (aQ rfl ?_));refine t1 hF20.tz (pK hF20 h920.ri h820.ri om om gQ gP dcd dcd) ?_;rintro s15 w21 x21 ⟨h21,-,hF21⟩;rw [tP,tQ] at h21;have h21:Rq (dg W64) w21 s15 (cgz Q P):=h21.rq;rw [←hsw] at h21;have h1021:=h1020.extT hF20.tz x21;refine acz h1021 h21 om λw22 e22=>aQ rfl ?_
  have h1022:=h1021.ext e22;have n22:=h1022.len;refine ag (y:=((g.length-1:Nat):Int)) ((ar om om).trans om) ?_;refine h1022.ix (j:=g.length-1) rfl om λa1 t1' hel _ _ q1=>⟨t1'.2,q1,?_⟩
  have hv:t1'.2=false:=hel.2.trans (decide_eq_false (by unfold ldz at g3;omega));refine aQ (by rw [hv];rfl) ?_;exact acW (hF21.gl.ext e22) λw23 e23=>⟨rfl,((farF f20 x21).trans e22).trans e23⟩
 rintro x w24 ⟨rfl,f24⟩;exact rt1 (c:=.bool) true f24 rfl
end Go.Proofs.YtpbimnlggalnfaaGreatDoor.Zg
