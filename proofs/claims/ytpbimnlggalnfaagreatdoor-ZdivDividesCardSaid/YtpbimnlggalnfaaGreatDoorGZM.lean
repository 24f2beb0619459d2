/- A part of the proofs of this seat's laws. -/
import Derived.Test.YtpbimnlggalnfaaGreatDoorGZD
import Derived.Test.YtpbimnlggalnfaaGreatDoorGZE
import Derived.Test.YtpbimnlggalnfaaGreatDoorGZL
set_option linter.unusedVariables false
set_option linter.unusedSimpArgs false
set_option linter.unnecessarySimpa false
namespace Go.Proofs.YtpbimnlggalnfaaGreatDoor.Zg
open Go.RowKit
section
variable {B:Nat}
section
variable {w w':TW} {X Y Z:Nat→Prop}
theorem Pf.of_oq{e:TypeId}{s:Sl}{zs:List Int}(h:Oq (dg W64) w B e s zs):Pf w aa s zs:=by
 obtain⟨ts,g1,g2,g3⟩:=id h;exact⟨ts,g1.rdv,g2,λc hc _=>⟨id,(h.lt_blk c hc).2⟩,λi hi=>⟨(g3 i hi).1,λhn c hc=>⟨id,((g3 i hi).2 hn c hc).2⟩⟩⟩
end
theorem aaI(R Y:List Int)(h:Nat)(c:Int):Sb R (pmt (shz h [c]) Y)=Sb R (shz h (Sc c Y)):=abH λi=>by
 rw [mf,ir];split
 ·rfl
 ·rw [iB]
theorem aaH{l:List Int}{j:Nat}{z:Int}(hj:j<l.length)(i:Nat):(l.set j z).getD i 0=if i=j then z else l.getD i 0:=by
 simp only [List.getD_eq_getElem?_getD,List.getElem?_set];by_cases h:j=i
 ·subst h;simp [hj]
 ·rw [if_neg h,if_neg (λe=>h e.symm)]
section
variable {w:TW} {p:Option Addr} {zd zm pz mo hg g po nu ra ro dv rc c m d k e t:Nat} {now:Int} {tab:List Int}
set_option maxHeartbeats 2000000 in
theorem ul{P:List Int→List Int→Prop}{QQ:Nat→Nat→Prop}{a b:Sl}{xs ys:List Int}{A:Nat}(hT:oR P)(hX:ng QQ)(hE:Eg w p [zd,zm,pz,mo,hg,g,po,nu,ra,ro,dv,rc,c,m,d,k,e] t now tab)(ha:Ri w a xs)(hb:Ri w b ys)(hl:xs.length≤65536)(hl2:ys.length≤65536)(hA:hgt (ae xs)≤A)(hB:hgt (ae ys)≤B)(hS:A+((ae xs).length+1-(ae ys).length)*(B+1)≤200000)(hB2:B≤200000)(hP:∀T,T.length+(ae ys).length≤(ae xs).length+1→hgt T+hgt (ae ys)≤A+((ae xs).length+1-(ae ys).length)*(B+1)→P T (ae ys))(hQ:∀x:Int,bl x.natAbs≤A+((ae xs).length+1-(ae ys).length)*(B+1)→QQ x.natAbs (ldz (ae ys)).natAbs)(h0:0≤now)(h1:now≤1000000000000000000):
  Ct Pg F.bk [.pointer p,a.v,b.v] w (λk=>k=t) [.one .slice,.one (.int .i64)] λ(s:Sl)(er:Int) w'=>(ae ys=[]→er=2∧s=Sl.nil)∧(ae ys≠[]→(exz (ae ys) ((ae xs).length+1-(ae ys).length) (ae xs) []=none→er=5∧s=Sl.nil)∧∀q,exz (ae ys) ((ae xs).length+1-(ae ys).length) (ae xs) []=some q→er=0∧Rq (dg W64) w' s (ae q)∧hgt q≤200000)∧Eg w' p [zd,zm,pz,mo,hg,g,po,nu,ra,ro,dv,rc,c,m,d,k,e] t now tab:=by
 refine Ct.bk ?_;unfold Sh.bk
 have hzx:∀i,sz (xs.getD i 0).natAbs≤1099511627776:=λi=>by
  have:=kL hA i;rw [aT] at this;omega
 have hzy:∀i,sz (ys.getD i 0).natAbs≤1099511627776:=λi=>by
  have:=kL hB i;rw [aT] at this;omega
 refine c1 (polyz_Norm ha.here om hzx) λs w1 e1 hs=>?_
 refine c1 (polyz_Norm (hb.here.ext e1) om hzy) λs1 w2 e2 hs1=>?_
 have e12:=e1.trans e2;have hE2:=hE.here.ext e12;have hXn:Nm (ae xs):=Nm.trim xs;have hYn:Nm (ae ys):=Nm.trim ys;have lX:=ao xs;have lY:=ao ys;have hs:=Pf.of_oq (hs.ext e2);have hs1:=Pf.of_oq hs1;have n1:=hs.rq.len;have n2:=hs1.rq.len;generalize ae xs=X at*;generalize ae ys=Y at*;by_cases hne:Y=[]
 ·subst hne;refine aQ (by rw [n2];rfl) ?_;exact rt2 (c:=.slice) (d:=.int .i64) Sl.nil 2 e12.any ⟨λ_=>⟨rfl,rfl⟩,λh=>absurd rfl h,hE2.at⟩
 have hpos:0<Y.length:=List.length_pos_iff.2 hne;have hlY:ldz Y≠0:=hYn.get hne;refine ap (by rw [n2];simp;exact hne) ?_;rw [n1,n2];obtain⟨K,hK⟩:∃K,X.length+1-Y.length=K:=⟨_,rfl⟩;rw [hK] at hS hP hQ ⊢;have hstep:∀{j:Nat},j≤K→A+j*(B+1)≤A+K*(B+1):=λhj=>Nat.add_le_add_left (Nat.mul_le_mul_right _ hj) _
 refine j1 (λ(q:Sl) w4=>∃L,Oq (dg W64) w4 w2.w.heap.size T.af q L∧L.length=(if Y.length≤X.length then K else 0)∧(∀i,L.getD i 0=0)∧Ext aa w2 w4) ?_ ?_
 ·refine ac (λh=>?_) (λh=>?_)
  ·refine ab om om (ab om om ?_);refine rk (D:=dg W64) (az _) (N:=K) om om λs2 w3 h3 e3=>⟨_,h3,by rw [if_pos om];simp,λi=>?_,e3⟩
   simp only [List.getD_eq_getElem?_getD,List.getElem?_replicate];split<;>rfl
  ·exact⟨[],Oq.nil _ _ _ _,by rw [if_neg om];rfl,λi=>by simp,Ext.refl _ _⟩
 rintro q w4 ⟨L0,hL0,lL0,gL0,e4⟩;obtain⟨XB,hXB⟩:∃XB:Nat→Prop,∀c,XB c↔q.blk=some c:=⟨_,λ_=>Iff.rfl⟩;have hXs:∀c,XB c→w2.w.heap.size≤c:=λc hc=>(hL0.lt_blk c ((hXB c).1 hc)).1
 have hs:=hs.extX (Y:=XB) e4 (λc hc=>hc.elim) λc hc=>.inr (hXs c hc)
 have hs1:=hs1.extX (Y:=XB) e4 (λc hc=>hc.elim) λc hc=>.inr (hXs c hc)
 have hE4:=hE2.ext e4;refine j1 (λ(r:Sl) w43=>∃(n:Nat) (R Q L:List Int),Pf w43 XB r R∧Oq (dg W64) w43 w2.w.heap.size T.af q L∧(∀i,L.getD i 0=Q.getD i 0)∧Nm Q∧hgt Q≤200000∧L.length≤65536∧R.length<Y.length∧exz Y K X []=exz Y n R Q∧Xt1 t w2 w43∧Eg w43 p [zd,zm,pz,mo,hg,g,po,nu,ra,ro,dv,rc,c,m,d,k,e] t now tab) ?_ ?_
 ·refine lp1 (λM (r:Sl) w5=>∃(n j:Nat) (R Q L:List Int),M=n∧n+j=K∧Pf w5 XB r R∧Nm R∧hgt R≤A+j*(B+1)∧R.length+1≤n+Y.length∧R.length≤X.length∧Oq (dg W64) w5 w2.w.heap.size T.af q L∧L.length=(if Y.length≤X.length then K else 0)∧(∀i,L.getD i 0=Q.getD i 0)∧(∀i,i+Y.length≤R.length→Q.getD i 0=0)∧Nm Q∧hgt Q≤A+K*(B+1)∧exz Y K X []=exz Y n R Q∧Pf w5 XB s1 Y∧Xt1 t w2 w5∧Eg w5 p [zd,zm,pz,mo,hg,g,po,nu,ra,ro,dv,rc,c,m,d,k,e] t now tab) K ⟨K,0,X,[],L0,rfl,rfl,hs,hXn,om,om,Nat.le_refl _,hL0,lL0,λi=>by rw [gL0];simp,λi _=>by simp,λz h=>by simp at h,by simp [hgt],rfl,hs1,e4.any,hE4⟩ ?_;rintro n r w5 ⟨_,j,R,Q,L,rfl,hnj,hr,nR,gR,lR,lRX,hL,lL,gL,hQ0,nQ,gQ,hex,hs1,x5,hE5⟩;have nr:=hr.rq.len;rw [nr];refine ac (λh=>?_) (λh=>?_)
  ·have hYR:Y.length≤R.length:=om;have hRne:R≠[]:=λe=>by rw [e,List.length_nil] at hYR;omega
   have hlR:ldz R≠0:=nR.get hRne;have gRK:A+j*(B+1)≤A+K*(B+1):=hstep om;have ed:Ext aa w5 w5.drew:=(Ext.refl _ _).drew;have hEd:=hE5.ext ed;obtain⟨cz,hcz⟩:∃cz,ldz R/ldz Y=cz:=⟨_,rfl⟩
   have hLe:∀{v:TW} {KK:Sl→Bool→TW→Prop},Ext aa w5.drew v→(∀x y v',Ext aa v v'→El (dg W64) v' (x,y) (ldz R)→KK x y v')→cl Pg F.cW [r.v] v [.agg [.slice,.bool]] KK:=by
    intro v KK ev hK;refine cl0 (zdiv_lead ((hr.rq.ext ed).ext ev) hRne om) ?_;intro x y v' e' h';exact hK x y v' e' h'
   have hYe:∀{v:TW} {KK:Sl→Bool→TW→Prop},Ext aa w5.drew v→(∀x y v',Ext aa v v'→El (dg W64) v' (x,y) (ldz Y)→KK x y v')→cl Pg F.cW [s1.v] v [.agg [.slice,.bool]] KK:=by
    intro v KK ev hK;refine cl0 (zdiv_lead ((hs1.rq.ext ed).ext ev) hne om) ?_;intro x y v' e' h';exact hK x y v' e' h'
   have hEv:∀{v:TW} {q6:Option Addr} {u z:Sl} {ub zb:Bool} {KK:Sl→Bool→Int→TW→Prop},Ext aa w5.drew v→Eg v q6 [nu,ra,ro,dv,rc,c,m,d,k,e] t now tab→El (dg W64) v (u,ub) (ldz R)→El (dg W64) v (z,zb) (ldz Y)→(∀x y er v',Xt1 t v v'→Eg v' p [zd,zm,pz,mo,hg,g,po,nu,ra,ro,dv,rc,c,m,d,k,e] t now tab→(ldz Y ∣ ldz R→er=0∧Io v' v.w.heap.size x y cz)→(¬ldz Y ∣ ldz R→er=5)→KK x y er v')→cl Pg F.aE [.pointer q6,.agg #[u.v,.bool ub],.agg #[z.v,.bool zb]] v [.agg [.slice,.bool],.one (.int .i64)] KK:=by
    intro v q6 u z ub zb KK ev hq6 hu hz hK;have hv:=hEd.ext ev;refine tM hv.tz (pZ hX hq6 hu.iz hz.iz (.inl hu.2) hz.2 hlY (hQ _ (Nat.le_trans (bp gR _) gRK)) h0 h1) ?_;rintro x y er v' xv ⟨k1,k2,E'⟩;exact hK x y er v' xv (hv.re xv E') (λh=>by rw [←hcz];exact k1 h) k2
   obtain⟨n',rfl⟩:∃n',n=n'+1:=⟨n-1,om⟩
   have tl:∀{v:TW} {u:Sl} {ub:Bool} {er:Int} {C0:Sl→TW→Prop} {RR:Value→TW→Prop},Xt1 t w5 v→Eg v p [zd,zm,pz,mo,hg,g,po,nu,ra,ro,dv,rc,c,m,d,k,e] t now tab→(ldz Y ∣ ldz R→er=0∧Io v w5.w.heap.size u ub cz)→(¬ldz Y ∣ ldz R→er=5)→(∀w',Xt1 t w2 w'→Eg w' p [zd,zm,pz,mo,hg,g,po,nu,ra,ro,dv,rc,c,m,d,k,e] t now tab→exz Y K X []=none→RR (.tuple #[.slice none 0 0,.int .i64 5]) w')→(∀s' w',(∃M',M'<n'+1∧∃(n j:Nat) (R Q L:List Int),M'=n∧n+j=K∧Pf w' XB s' R∧Nm R∧hgt R≤A+j*(B+1)∧R.length+1≤n+Y.length∧R.length≤X.length∧Oq (dg W64) w' w2.w.heap.size T.af q L∧L.length=(if Y.length≤X.length then K else 0)∧(∀i,L.getD i 0=Q.getD i 0)∧(∀i,i+Y.length≤R.length→Q.getD i 0=0)∧Nm Q∧hgt Q≤A+K*(B+1)∧exz Y K X []=exz Y n R Q∧Pf w' XB s1 Y∧Xt1 t w2 w'∧Eg w' p [zd,zm,pz,mo,hg,g,po,nu,ra,ro,dv,rc,c,m,d,k,e] t now tab)→C0 s' w')→
     cond ((er:Int) != 0) (RR (.tuple #[.slice none 0 0,.int .i64 er]) v) (bnd (wi ((R.length:Int)-(Y.length:Int))) λn2=>ixa q n2 2 λa8=>stc v a8 u.v λw11=>stc w11 (a8.add 1) (.bool ub) λw12=>nck p λa9=>ldc (.ptr) w12.drew a9 λ(v7:Option Addr)=>cl Pg F.eQ [.agg #[u.v,.bool ub],.int .i64 n2] w12.drew [.one .slice] λ(s3:Sl) w13=>hld w13 [(a9,.pointer v7)] <| cl Pg F.ax [.pointer v7,s3.v,s1.v] w13 [.one .slice] λ(s4:Sl) w14=>cl Pg F.dA [r.v,s4.v] w14 [.one .slice] λ(s5:Sl) w15=>C0 s5 w15):=by
    intro v u ub er C0 RR xv hv hev1 hev2 hRR hC0;have x2v:Xt1 t w2 v:=x5.trans xv;by_cases hdv:ldz Y ∣ ldz R
    ·obtain⟨rfl,hu⟩:=hev1 hdv;refine ap rfl ?_;obtain⟨H,hH⟩:∃H,R.length-Y.length=H:=⟨_,rfl⟩;have ny:=hs1.rq.len;refine ag (y:=((H:Nat):Int)) ((ar om om).trans om) ?_;have hLv:=hL.extT hE5.tz jd xv;have hrv:=hr.extT hE5.tz xv;have hs1v:=hs1.extT hE5.tz xv;have hue:Ea v XB (u,ub) cz:=Ea.of hu λc hc=>(hL.lt_blk c ((hXB c).1 hc)).2
     refine hLv.set (j:=H) (z:=cz) rfl (by rw [lL,if_pos om];omega) hue.1 (λhn c hc=>⟨λh'=>(hue.2 hn c hc).1 ((hXB c).2 h'),(hue.2 hn c hc).2⟩) λw12 hL12 xs12=>?_
     have xs12:Ext XB v w12:=xs12.mono λc _ hc=>(hXB c).2 hc
     have hE12:Eg w12 p [zd,zm,pz,mo,hg,g,po,nu,ra,ro,dv,rc,c,m,d,k,e] t now tab:=hv.young hE2 xs12 hXs;have x212:Xt1 t w2 w12:=Ext.mineT x2v xs12 λc hc=>.inr (hXs c hc)
     have hr12:=hrv.extX (Y:=XB) xs12 (λc hc=>hc) λc hc=>.inl hc
     have hs112:=hs1v.extX (Y:=XB) xs12 (λc hc=>hc) λc hc=>.inl hc
     have hu12:=hue.extX (Y:=XB) xs12 (λc hc=>hc) λc hc=>.inl hc
     have ed12:Ext aa w12 w12.drew:=(Ext.refl _ _).drew;have hEd12:=hE12.ext ed12;refine hEd12.downC λv7 V7 k7 t7=>?_
     refine c1 (zdiv_moved (El.ext hu12.1 ed12) om) λs3 w13 e13 h3=>?_
     have H7:HcC w13 t [(_,.pointer v7)]:=(HcC.cons k7 t7 (.nil _)).ext e13;refine aN H7 ?_;have e1213:=ed12.trans e13;have hE13:=hE12.ext e1213
     have bcz:bl cz.natAbs≤A+j*(B+1):=by
      rw [←hcz];exact aY (Nat.lt_of_le_of_lt (Int.natAbs_ediv_le_natAbs _ _) (Nat.lt_of_lt_of_le (fr (ldz R).natAbs) (Nat.pow_le_pow_right dcd (bp gR _))))
     have gT:hgt (shz H [cz])≤A+j*(B+1):=oJ (dW λi=>by
      match i with
      | 0=>exact bcz
      | i+1=>simp [dX])
     have lT:(shz H [cz]).length=H+1:=by simp [shz]
     have hjK:A+(j+1)*(B+1)≤A+K*(B+1):=hstep om;rw [Nat.add_mul,Nat.one_mul] at hjK;refine t1 hE13.tz (hT (V7.ext e13) h3.ri (hs112.rq.ext e1213).ri (hP _ om om) h0 h1) ?_;rintro s4 w14 x14 ⟨h4,V7'⟩;have hE14:=hE13.re x14 V7'
     have gPm:hgt (pmt (shz H [cz]) Y)≤A+j*(B+1)+B:=dW λi=>by
      rw [mf];split
      ·simp [dX]
      ·rw [Int.mul_comm];exact lh bcz (bp hB _)
     have lPm:(pmt (shz H [cz]) Y).length≤65536:=by
      refine (Nm.trim (pm _ _)).len_le λi hi=>?_
      have:=mf H cz Y i;unfold pmt at this;rw [this];split
      ·rfl
      ·rw [gtb (l:=Y) om,Int.zero_mul]
     have hr14:=(hr12.rq.ext e1213).extT hE13.tz x14;have szl:∀{Z:List Int},hgt Z≤400000→∀i,sz (Z.getD i 0).natAbs≤1048576:=λh i=>Nat.le_trans (kL h i) om
     refine c1 (polyz_Minus hr14.ri h4.ri om lPm (szl om) (szl om)) ?_;intro s5 w15 e15 h5;have x1215:Xt1 t w12 w15:=(e1213.any.trans x14).trans e15.any;have hTz12:=hE12.tz;rw [aaI,←hH,←hcz] at h5;have hqH:ldz R/ldz Y=cz:=hcz;have hlt:=xr hne hYR hdv;refine hC0 s5 w15 ⟨n',om,n',j+1,_,Ad Q (shz H [cz]),L.set H cz,rfl,om,Pf.of h5 (λc hc=>Nat.lt_of_lt_of_le (hL12.lt_blk c ((hXB c).1 hc)).2 (e1213.any.trans x14).size),Nm.trim _,?_,?_,?_,hL12.extT hTz12 jd x1215,by rw [List.length_set];exact lL,λi=>?_,λi hi=>?_,Nm.trim _,?_,?_,hs112.extT hTz12 x1215,x212.trans x1215,hE14.ext e15⟩
     ·have:=acD hdv gR hB;rw [Nat.add_mul,Nat.one_mul];omega
     ·omega
     ·omega
     ·rw [aaH (by rw [lL,if_pos om];omega),oS,mF];by_cases h':i=H
      ·rw [if_pos h',if_pos h',h',hQ0 H om];simp
      ·rw [if_neg h',if_neg h',gL];simp
     ·rw [oS,mF,if_neg om,hQ0 i om];rfl
     ·refine dW λi=>?_
      rw [oS,mF];by_cases h':i=H
      ·rw [if_pos h',h',hQ0 H om,Int.zero_add];omega
      ·rw [if_neg h',Int.add_zero];exact bp gQ i
     ·rw [hex,vN hYR hdv,hH,hcz]
    ·have:=hev2 hdv;subst this;refine aQ rfl (hRR v x2v hv ?_);rw [hex,abo hYR hdv]
   have aft:∀{v v' vf:TW} {u:Sl} {ub:Bool} {er:Int} {C0:Sl→TW→Prop} {RR:Value→TW→Prop},Ext aa w5.drew v→Xt1 t v v'→Ext aa v' vf→Eg v' p [zd,zm,pz,mo,hg,g,po,nu,ra,ro,dv,rc,c,m,d,k,e] t now tab→(ldz Y ∣ ldz R→er=0∧Io v' v.w.heap.size u ub cz)→(¬ldz Y ∣ ldz R→er=5)→Xt1 t w5 vf∧Eg vf p [zd,zm,pz,mo,hg,g,po,nu,ra,ro,dv,rc,c,m,d,k,e] t now tab∧(ldz Y ∣ ldz R→er=0∧Io vf w5.w.heap.size u ub cz):=by
    intro v v' vf u ub er C0 RR e1 x2 e3 hE' k1 k2;refine⟨((ed.trans e1).any.trans x2).trans e3.any,hE'.ext e3,λh=>⟨(k1 h).1,(On.ext (k1 h).2.1 e3).less (ed.trans e1).size,(k1 h).2.2⟩⟩
   have fR:∀w',Xt1 t w2 w'→Eg w' p [zd,zm,pz,mo,hg,g,po,nu,ra,ro,dv,rc,c,m,d,k,e] t now tab→exz Y K X []=none→Rt (λk=>k=t) [.one .slice,.one (.int .i64)] (λ(s:Sl)(er:Int) w'=>(Y=[]→er=2∧s=Sl.nil)∧(Y≠[]→(exz Y K X []=none→er=5∧s=Sl.nil)∧∀q,exz Y K X []=some q→er=0∧Rq (dg W64) w' s (ae q)∧hgt q≤200000)∧Eg w' p [zd,zm,pz,mo,hg,g,po,nu,ra,ro,dv,rc,c,m,d,k,e] t now tab) w (.tuple #[.slice none 0 0,.int .i64 5]) w':=λw' x' hE' hnone=>
    rt2 (c:=.slice) (d:=.int .i64) Sl.nil 5 (e12.any.trans x') ⟨λh=>absurd h hne,λ_=>⟨λ_=>⟨rfl,rfl⟩,λq hq=>by rw [hnone] at hq;cases hq⟩,hE'.at⟩
   refine hEd.down7 λ_ _ _ _ _ _ _ _ _ _ _ _ _ _ E7 H7=>?_
   refine⟨hLe (Ext.refl _ _) λr1 r2 w6 e6 l6=>aN (H7.ext e6) ⟨hYe e6 λr3 r4 w7 e7 l7=>?_,λw24 e24=>?_⟩,λw33 e33=>?_⟩
   ·have e67:=e6.trans e7;refine aN (H7.ext e67) ⟨?_,λw16 e16=>?_⟩
    ·refine hEv e67 (E7.ext e67) (El.ext l6 e7) l7 λx y er w8 x8 hE8 k1 k2=>?_
     have H8:=((H7.ext e67).extT x8).tail;refine aN H8 λw9 e9=>aN (H8.ext e9) λw10 e10=>?_
     obtain⟨m1,m2,m3⟩:=aft (C0:=λ_ _=>True) (RR:=λ_ _=>True) e67 x8 (e9.trans e10) hE8 k1 k2;exact tl m1 m2 m3 k2 fR λs' w' h=>h
    ·have e716:=e67.trans e16;refine aN (H7.ext e716) (hEv e716 (E7.ext e716) (El.ext l6 (e7.trans e16)) (El.ext l7 e16) λx y er w8 x8 hE8 k1 k2=>?_);have H8:=((H7.ext e716).extT x8).tail;refine aN H8 λw9 e9=>?_
     obtain⟨m1,m2,m3⟩:=aft (C0:=λ_ _=>True) (RR:=λ_ _=>True) e716 x8 e9 hE8 k1 k2;exact tl m1 m2 m3 k2 fR λs' w' h=>h
   ·have e624:=e6.trans e24;refine aN (H7.ext e624) (hYe e624 λr3 r4 w7 e7 l7=>?_);have e67:=e624.trans e7;refine aN (H7.ext e67) (hEv e67 (E7.ext e67) (El.ext l6 (e24.trans e7)) l7 λx y er w8 x8 hE8 k1 k2=>?_);have H8:=((H7.ext e67).extT x8).tail;refine aN H8 λw9 e9=>?_
    obtain⟨m1,m2,m3⟩:=aft (C0:=λ_ _=>True) (RR:=λ_ _=>True) e67 x8 e9 hE8 k1 k2;exact tl m1 m2 m3 k2 fR λs' w' h=>h
   ·refine aN (H7.ext e33) (hLe e33 λr1 r2 w6 e6 l6=>?_);have e36:=e33.trans e6;refine aN (H7.ext e36) (hYe e36 λr3 r4 w7 e7 l7=>?_);have e67:=e36.trans e7;refine aN (H7.ext e67) (hEv e67 (E7.ext e67) (El.ext l6 e7) l7 λx y er w8 x8 hE8 k1 k2=>?_);have H8:=((H7.ext e67).extT x8).tail;refine aN H8 λw9 e9=>?_
    obtain⟨m1,m2,m3⟩:=aft (C0:=λ_ _=>True) (RR:=λ_ _=>True) e67 x8 e9 hE8 k1 k2;exact tl m1 m2 m3 k2 fR λs' w' h=>h
  ·exact⟨n,R,Q,L,hr,hL,gL,nQ,om,by rw [lL];split<;>omega,om,hex,x5,hE5⟩
 rintro r w43 ⟨n,R,Q,L,hr,hL,gL,nQ,gQ,lL,hRY,hex,x43,hE43⟩;have nr:=hr.rq.len;rw [nr];have hsh:=qg (q:=Q) (n:=n) hRY;rw [←hex] at hsh;have z43:Xt1 t w.here w43:=e12.any.trans x43;refine ac (λh=>?_) (λh=>?_)
 ·have hRne:R≠[]:=λe=>by rw [e,List.length_nil] at h;omega
  rw [if_neg hRne] at hsh;exact rt2 (c:=.slice) (d:=.int .i64) Sl.nil 5 z43 ⟨λh=>absurd h hne,λ_=>⟨λ_=>⟨rfl,rfl⟩,λq hq=>by rw [hsh] at hq;cases hq⟩,hE43.at⟩
 ·have hRn:R=[]:=List.length_eq_zero_iff.1 om;rw [if_pos hRn] at hsh;refine c1 (polyz_Norm hL.rq.ri om λi=>by rw [gL];exact Nat.le_trans (kL gQ i) dcd) λs15 w44 e44 h44=>?_
  have:ae L=ae Q:=(Nm.trim _).ext (Nm.trim _) λi=>by rw [aT,aT,gL]
  rw [this] at h44;exact rt2 (c:=.slice) (d:=.int .i64) s15 0 (z43.trans e44.any) ⟨λh=>absurd h hne,λ_=>⟨λhn=>(by rw [hsh] at hn;cases hn),λq hq=>(by rw [hsh] at hq;cases hq;exact⟨rfl,h44.rq.at,gQ⟩)⟩,(hE43.ext e44).at⟩
end
end
end Go.Proofs.YtpbimnlggalnfaaGreatDoor.Zg
