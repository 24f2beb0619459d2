/- A part of the proofs of this seat's laws. -/
import Derived.Test.YtpbimnlggalnfaaGreatDoorGZD
import Derived.Test.YtpbimnlggalnfaaGreatDoorGZE
import Derived.Test.YtpbimnlggalnfaaGreatDoorGZL
import Derived.Test.YtpbimnlggalnfaaGreatDoorGJA
import Derived.Test.YtpbimnlggalnfaaGreatDoorGZK
import Derived.Test.YtpbimnlggalnfaaGreatDoorGZJ
set_option linter.unusedVariables false
set_option linter.unusedSimpArgs false
set_option linter.unnecessarySimpa false
namespace Go.Proofs.YtpbimnlggalnfaaGreatDoor.Zg
open Go.RowKit
section
variable {B:Nat}
section
variable {w w':TW} {X Y Z:Nat→Prop}
theorem Pf.of_oq{e:TypeId}{s:Sl}{zs:List Int}(h:Oq (dg W64) w B e s zs):Pf w aa s zs:=by
 obtain⟨ts,g1,g2,g3⟩:=id h;exact⟨ts,g1.rdv,g2,λc hc _=>⟨id,(h.lt_blk c hc).2⟩,λi hi=>⟨(g3 i hi).1,λhn c hc=>⟨id,((g3 i hi).2 hn c hc).2⟩⟩⟩
end
theorem yD(R Y:List Int)(h:Nat)(c:Int):Sb R (pmt (shz h [c]) Y)=Sb R (shz h (Sc c Y)):=uw λi=>by
 rw [pR,iV];split
 ·rfl
 ·rw [nz]
theorem yC{l:List Int}{j:Nat}{z:Int}(hj:j<l.length)(i:Nat):(l.set j z).getD i 0=if i=j then z else l.getD i 0:=by
 simp only [List.getD_eq_getElem?_getD,List.getElem?_set];by_cases h:j=i
 ·subst h;simp [hj]
 ·rw [if_neg h,if_neg (λe=>h e.symm)]
section
variable {w:TW} {p:Option Addr} {zd zm pz mo hg g po nu ra ro dv rc c m d k e t:Nat} {now:Int} {tab:List Int}
set_option maxHeartbeats 2000000 in
theorem sf{P:List Int→List Int→Prop}{QQ:Nat→Nat→Prop}{a b:Sl}{xs ys:List Int}{A:Nat}(hT:vN P)(hX:l9 QQ)(hE:Eg w p [zd,zm,pz,mo,hg,g,po,nu,ra,ro,dv,rc,c,m,d,k,e] t now tab)(ha:Ri w a xs)(hb:Ri w b ys)(hl:xs.length≤65536)(hl2:ys.length≤65536)(hA:hgt (ae xs)≤A)(hB:hgt (ae ys)≤B)(hS:A+((ae xs).length+1-(ae ys).length)*(B+1)≤200000)(hB2:B≤200000)(hP:∀T,T.length+(ae ys).length≤(ae xs).length+1→hgt T+hgt (ae ys)≤A+((ae xs).length+1-(ae ys).length)*(B+1)→P T (ae ys))(hQ:∀x:Int,bl x.natAbs≤A+((ae xs).length+1-(ae ys).length)*(B+1)→QQ x.natAbs (ldz (ae ys)).natAbs)(h0:0≤now)(h1:now≤1000000000000000000):
  Ct Pg F.cj [.pointer p,a.v,b.v] w (λk=>k=t) [.one .slice,.one (.int .i64)] λ(s:Sl)(er:Int) w'=>(ae ys=[]→er=2∧s=Sl.nil)∧(ae ys≠[]→(exz (ae ys) ((ae xs).length+1-(ae ys).length) (ae xs) []=none→er=5∧s=Sl.nil)∧∀q,exz (ae ys) ((ae xs).length+1-(ae ys).length) (ae xs) []=some q→er=0∧Rq (dg W64) w' s (ae q)∧hgt q≤200000)∧Eg w' p [zd,zm,pz,mo,hg,g,po,nu,ra,ro,dv,rc,c,m,d,k,e] t now tab:=by
 refine Ct.cj ?_;unfold Sh.cj
 have hzx:∀i,sz (xs.getD i 0).natAbs≤1099511627776:=λi=>by
  have:=ni hA i;rw [bQ] at this;omega
 have hzy:∀i,sz (ys.getD i 0).natAbs≤1099511627776:=λi=>by
  have:=ni hB i;rw [bQ] at this;omega
 refine c1 (polyz_Norm ha.here om hzx) λs w1 e1 hs=>?_
 refine c1 (polyz_Norm (hb.here.ext e1) om hzy) λs1 w2 e2 hs1=>?_
 have e12:=e1.trans e2;have hE2:=hE.here.ext e12;have hXn:Nm (ae xs):=Nm.trim xs;have hYn:Nm (ae ys):=Nm.trim ys;have lX:=ap xs;have lY:=ap ys;have hs:=Pf.of_oq (hs.ext e2);have hs1:=Pf.of_oq hs1;have n1:=hs.rq.len;have n2:=hs1.rq.len;generalize ae xs=X at*;generalize ae ys=Y at*;by_cases hne:Y=[]
 ·subst hne;refine bg (by rw [n2];rfl) ?_;exact rt2 (c:=.slice) (d:=.int .i64) Sl.nil 2 e12.any ⟨λ_=>⟨rfl,rfl⟩,λh=>absurd rfl h,hE2.at⟩
 have hpos:0<Y.length:=List.length_pos_iff.2 hne;have hlY:ldz Y≠0:=hYn.get hne;refine aq (by rw [n2];simp;exact hne) ?_;rw [n1,n2];obtain⟨K,hK⟩:∃K,X.length+1-Y.length=K:=⟨_,rfl⟩;rw [hK] at hS hP hQ ⊢;have hstep:∀{j:Nat},j≤K→A+j*(B+1)≤A+K*(B+1):=λhj=>Nat.add_le_add_left (Nat.mul_le_mul_right _ hj) _
 refine j1 (λ(q:Sl) w4=>∃L,Oq (dg W64) w4 w2.w.heap.size T.af q L∧L.length=(if Y.length≤X.length then K else 0)∧(∀i,L.getD i 0=0)∧Ext aa w2 w4) ?_ ?_
 ·refine ac (λh=>?_) (λh=>?_)
  ·refine ab om om (ab om om ?_);refine pW (D:=dg W64) (bf _) (N:=K) om om λs2 w3 h3 e3=>⟨_,h3,by rw [if_pos om];simp,λi=>?_,e3⟩
   simp only [List.getD_eq_getElem?_getD,List.getElem?_replicate];split<;>rfl
  ·exact⟨[],Oq.nil _ _ _ _,by rw [if_neg om];rfl,λi=>by simp,Ext.refl _ _⟩
 rintro q w4 ⟨L0,hL0,lL0,gL0,e4⟩;obtain⟨XB,hXB⟩:∃XB:Nat→Prop,∀c,XB c↔q.blk=some c:=⟨_,λ_=>Iff.rfl⟩;have hXs:∀c,XB c→w2.w.heap.size≤c:=λc hc=>(hL0.lt_blk c ((hXB c).1 hc)).1
 have hs:=hs.extX (Y:=XB) e4 (λc hc=>hc.elim) λc hc=>.inr (hXs c hc)
 have hs1:=hs1.extX (Y:=XB) e4 (λc hc=>hc.elim) λc hc=>.inr (hXs c hc)
 have hE4:=hE2.ext e4;refine j1 (λ(r:Sl) w43=>∃(n:Nat) (R Q L:List Int),Pf w43 XB r R∧Oq (dg W64) w43 w2.w.heap.size T.af q L∧(∀i,L.getD i 0=Q.getD i 0)∧Nm Q∧hgt Q≤200000∧L.length≤65536∧R.length<Y.length∧exz Y K X []=exz Y n R Q∧Xt1 t w2 w43∧Eg w43 p [zd,zm,pz,mo,hg,g,po,nu,ra,ro,dv,rc,c,m,d,k,e] t now tab) ?_ ?_
 ·refine lp1 (λM (r:Sl) w5=>∃(n j:Nat) (R Q L:List Int),M=n∧n+j=K∧Pf w5 XB r R∧Nm R∧hgt R≤A+j*(B+1)∧R.length+1≤n+Y.length∧R.length≤X.length∧Oq (dg W64) w5 w2.w.heap.size T.af q L∧L.length=(if Y.length≤X.length then K else 0)∧(∀i,L.getD i 0=Q.getD i 0)∧(∀i,i+Y.length≤R.length→Q.getD i 0=0)∧Nm Q∧hgt Q≤A+K*(B+1)∧exz Y K X []=exz Y n R Q∧Pf w5 XB s1 Y∧Xt1 t w2 w5∧Eg w5 p [zd,zm,pz,mo,hg,g,po,nu,ra,ro,dv,rc,c,m,d,k,e] t now tab) K ⟨K,0,X,[],L0,rfl,rfl,hs,hXn,om,om,Nat.le_refl _,hL0,lL0,λi=>by rw [gL0];simp,λi _=>by simp,λz h=>by simp at h,by simp [hgt],rfl,hs1,e4.any,hE4⟩ ?_;rintro n r w5 ⟨_,j,R,Q,L,rfl,hnj,hr,nR,gR,lR,lRX,hL,lL,gL,hQ0,nQ,gQ,hex,hs1,x5,hE5⟩;have nr:=hr.rq.len;rw [nr];refine ac (λh=>?_) (λh=>?_)
  ·have hYR:Y.length≤R.length:=om;have hRne:R≠[]:=λe=>by rw [e,List.length_nil] at hYR;omega
   have hlR:ldz R≠0:=nR.get hRne;have gRK:A+j*(B+1)≤A+K*(B+1):=hstep om;have ed:Ext aa w5 w5.drew:=(Ext.refl _ _).drew;have hEd:=hE5.ext ed;obtain⟨cz,hcz⟩:∃cz,ldz R/ldz Y=cz:=⟨_,rfl⟩
   have hLe:∀{v:TW} {KK:Sl→Bool→TW→Prop},Ext aa w5.drew v→(∀x y v',Ext aa v v'→El (dg W64) v' (x,y) (ldz R)→KK x y v')→cl Pg F.ej [r.v] v [.agg [.slice,.bool]] KK:=by
    intro v KK ev hK;refine cl0 (zdiv_lead ((hr.rq.ext ed).ext ev) hRne om) ?_;intro x y v' e' h';exact hK x y v' e' h'
   have hYe:∀{v:TW} {KK:Sl→Bool→TW→Prop},Ext aa w5.drew v→(∀x y v',Ext aa v v'→El (dg W64) v' (x,y) (ldz Y)→KK x y v')→cl Pg F.ej [s1.v] v [.agg [.slice,.bool]] KK:=by
    intro v KK ev hK;refine cl0 (zdiv_lead ((hs1.rq.ext ed).ext ev) hne om) ?_;intro x y v' e' h';exact hK x y v' e' h'
   have hEv:∀{v:TW} {q6:Option Addr} {u z:Sl} {ub zb:Bool} {KK:Sl→Bool→Int→TW→Prop},Ext aa w5.drew v→Eg v q6 [nu,ra,ro,dv,rc,c,m,d,k,e] t now tab→El (dg W64) v (u,ub) (ldz R)→El (dg W64) v (z,zb) (ldz Y)→(∀x y er v',Xt1 t v v'→Eg v' p [zd,zm,pz,mo,hg,g,po,nu,ra,ro,dv,rc,c,m,d,k,e] t now tab→(ldz Y ∣ ldz R→er=0∧Io v' v.w.heap.size x y cz)→(¬ldz Y ∣ ldz R→er=5)→KK x y er v')→cl Pg F.ay [.pointer q6,.agg #[u.v,.bool ub],.agg #[z.v,.bool zb]] v [.agg [.slice,.bool],.one (.int .i64)] KK:=by
    intro v q6 u z ub zb KK ev hq6 hu hz hK;have hv:=hEd.ext ev;refine tM hv.tz (oR hX hq6 hu.iz hz.iz (.inl hu.2) hz.2 hlY (hQ _ (Nat.le_trans (fI gR _) gRK)) h0 h1) ?_;rintro x y er v' xv ⟨k1,k2,E'⟩;exact hK x y er v' xv (hv.re xv E') (λh=>by rw [←hcz];exact k1 h) k2
   obtain⟨n',rfl⟩:∃n',n=n'+1:=⟨n-1,om⟩
   have tl:∀{v:TW} {u:Sl} {ub:Bool} {er:Int} {C0:Sl→TW→Prop} {RR:Value→TW→Prop},Xt1 t w5 v→Eg v p [zd,zm,pz,mo,hg,g,po,nu,ra,ro,dv,rc,c,m,d,k,e] t now tab→(ldz Y ∣ ldz R→er=0∧Io v w5.w.heap.size u ub cz)→(¬ldz Y ∣ ldz R→er=5)→(∀w',Xt1 t w2 w'→Eg w' p [zd,zm,pz,mo,hg,g,po,nu,ra,ro,dv,rc,c,m,d,k,e] t now tab→exz Y K X []=none→RR (.tuple #[.slice none 0 0,.int .i64 5]) w')→(∀s' w',(∃M',M'<n'+1∧∃(n j:Nat) (R Q L:List Int),M'=n∧n+j=K∧Pf w' XB s' R∧Nm R∧hgt R≤A+j*(B+1)∧R.length+1≤n+Y.length∧R.length≤X.length∧Oq (dg W64) w' w2.w.heap.size T.af q L∧L.length=(if Y.length≤X.length then K else 0)∧(∀i,L.getD i 0=Q.getD i 0)∧(∀i,i+Y.length≤R.length→Q.getD i 0=0)∧Nm Q∧hgt Q≤A+K*(B+1)∧exz Y K X []=exz Y n R Q∧Pf w' XB s1 Y∧Xt1 t w2 w'∧Eg w' p [zd,zm,pz,mo,hg,g,po,nu,ra,ro,dv,rc,c,m,d,k,e] t now tab)→C0 s' w')→
     cond ((er:Int) != 0) (RR (.tuple #[.slice none 0 0,.int .i64 er]) v) (bnd (wi ((R.length:Int)-(Y.length:Int))) λn2=>ixa q n2 2 λa8=>stc v a8 u.v λw11=>stc w11 (a8.add 1) (.bool ub) λw12=>nck p λa9=>ldc (.ptr) w12.drew a9 λ(v7:Option Addr)=>cl Pg F.eV [.agg #[u.v,.bool ub],.int .i64 n2] w12.drew [.one .slice] λ(s3:Sl) w13=>hld w13 [(a9,.pointer v7)] <| cl Pg F.aw [.pointer v7,s3.v,s1.v] w13 [.one .slice] λ(s4:Sl) w14=>cl Pg F.ef [r.v,s4.v] w14 [.one .slice] λ(s5:Sl) w15=>C0 s5 w15):=by
    intro v u ub er C0 RR xv hv hev1 hev2 hRR hC0;have x2v:Xt1 t w2 v:=x5.trans xv;by_cases hdv:ldz Y ∣ ldz R
    ·obtain⟨rfl,hu⟩:=hev1 hdv;refine aq rfl ?_;obtain⟨H,hH⟩:∃H,R.length-Y.length=H:=⟨_,rfl⟩;have ny:=hs1.rq.len;refine ah (y:=((H:Nat):Int)) ((aC om om).trans om) ?_;have hLv:=hL.extT hE5.tz iX xv;have hrv:=hr.extT hE5.tz xv;have hs1v:=hs1.extT hE5.tz xv;have hue:Ea v XB (u,ub) cz:=Ea.of hu λc hc=>(hL.lt_blk c ((hXB c).1 hc)).2
     refine hLv.set (j:=H) (z:=cz) rfl (by rw [lL,if_pos om];omega) hue.1 (λhn c hc=>⟨λh'=>(hue.2 hn c hc).1 ((hXB c).2 h'),(hue.2 hn c hc).2⟩) λw12 hL12 xs12=>?_
     have xs12:Ext XB v w12:=xs12.mono λc _ hc=>(hXB c).2 hc
     have hE12:Eg w12 p [zd,zm,pz,mo,hg,g,po,nu,ra,ro,dv,rc,c,m,d,k,e] t now tab:=hv.young hE2 xs12 hXs;have x212:Xt1 t w2 w12:=Ext.mineT x2v xs12 λc hc=>.inr (hXs c hc)
     have hr12:=hrv.extX (Y:=XB) xs12 (λc hc=>hc) λc hc=>.inl hc
     have hs112:=hs1v.extX (Y:=XB) xs12 (λc hc=>hc) λc hc=>.inl hc
     have hu12:=hue.extX (Y:=XB) xs12 (λc hc=>hc) λc hc=>.inl hc
     have ed12:Ext aa w12 w12.drew:=(Ext.refl _ _).drew;have hEd12:=hE12.ext ed12;refine hEd12.downC λv7 V7 k7 t7=>?_
     refine c1 (zdiv_moved (El.ext hu12.1 ed12) om) λs3 w13 e13 h3=>?_
     have H7:HcC w13 t [(_,.pointer v7)]:=(HcC.cons k7 t7 (.nil _)).ext e13;refine bq H7 ?_;have e1213:=ed12.trans e13;have hE13:=hE12.ext e1213
     have bcz:bl cz.natAbs≤A+j*(B+1):=by
      rw [←hcz];exact bi (Nat.lt_of_le_of_lt (Int.natAbs_ediv_le_natAbs _ _) (Nat.lt_of_lt_of_le (fj (ldz R).natAbs) (Nat.pow_le_pow_right dcd (fI gR _))))
     have gT:hgt (shz H [cz])≤A+j*(B+1):=rh (gn λi=>by
      match i with
      | 0=>exact bcz
      | i+1=>simp [fJ])
     have lT:(shz H [cz]).length=H+1:=by simp [shz]
     have hjK:A+(j+1)*(B+1)≤A+K*(B+1):=hstep om;rw [Nat.add_mul,Nat.one_mul] at hjK;refine t1 hE13.tz (hT (V7.ext e13) h3.ri (hs112.rq.ext e1213).ri (hP _ om om) h0 h1) ?_;rintro s4 w14 x14 ⟨h4,V7'⟩;have hE14:=hE13.re x14 V7'
     have gPm:hgt (pmt (shz H [cz]) Y)≤A+j*(B+1)+B:=gn λi=>by
      rw [pR];split
      ·simp [fJ]
      ·rw [Int.mul_comm];exact l4 bcz (fI hB _)
     have lPm:(pmt (shz H [cz]) Y).length≤65536:=by
      refine (Nm.trim (pm _ _)).len_le λi hi=>?_
      have:=pR H cz Y i;unfold pmt at this;rw [this];split
      ·rfl
      ·rw [gtb (l:=Y) om,Int.zero_mul]
     have hr14:=(hr12.rq.ext e1213).extT hE13.tz x14;have szl:∀{Z:List Int},hgt Z≤400000→∀i,sz (Z.getD i 0).natAbs≤1048576:=λh i=>Nat.le_trans (ni h i) om
     refine c1 (polyz_Minus hr14.ri h4.ri om lPm (szl om) (szl om)) ?_;intro s5 w15 e15 h5;have x1215:Xt1 t w12 w15:=(e1213.any.trans x14).trans e15.any;have hTz12:=hE12.tz;rw [yD,←hH,←hcz] at h5;have hqH:ldz R/ldz Y=cz:=hcz;have hlt:=rk hne hYR hdv;refine hC0 s5 w15 ⟨n',om,n',j+1,_,Ad Q (shz H [cz]),L.set H cz,rfl,om,Pf.of h5 (λc hc=>Nat.lt_of_lt_of_le (hL12.lt_blk c ((hXB c).1 hc)).2 (e1213.any.trans x14).size),Nm.trim _,?_,?_,?_,hL12.extT hTz12 iX x1215,by rw [List.length_set];exact lL,λi=>?_,λi hi=>?_,Nm.trim _,?_,?_,hs112.extT hTz12 x1215,x212.trans x1215,hE14.ext e15⟩
     ·have:=vC hdv gR hB;rw [Nat.add_mul,Nat.one_mul];omega
     ·omega
     ·omega
     ·rw [yC (by rw [lL,if_pos om];omega),ln,lm];by_cases h':i=H
      ·rw [if_pos h',if_pos h',h',hQ0 H om];simp
      ·rw [if_neg h',if_neg h',gL];simp
     ·rw [ln,lm,if_neg om,hQ0 i om];rfl
     ·refine gn λi=>?_
      rw [ln,lm];by_cases h':i=H
      ·rw [if_pos h',h',hQ0 H om,Int.zero_add];omega
      ·rw [if_neg h',Int.add_zero];exact fI gQ i
     ·rw [hex,qa hYR hdv,hH,hcz]
    ·have:=hev2 hdv;subst this;refine bg rfl (hRR v x2v hv ?_);rw [hex,ue hYR hdv]
   have aft:∀{v v' vf:TW} {u:Sl} {ub:Bool} {er:Int} {C0:Sl→TW→Prop} {RR:Value→TW→Prop},Ext aa w5.drew v→Xt1 t v v'→Ext aa v' vf→Eg v' p [zd,zm,pz,mo,hg,g,po,nu,ra,ro,dv,rc,c,m,d,k,e] t now tab→(ldz Y ∣ ldz R→er=0∧Io v' v.w.heap.size u ub cz)→(¬ldz Y ∣ ldz R→er=5)→Xt1 t w5 vf∧Eg vf p [zd,zm,pz,mo,hg,g,po,nu,ra,ro,dv,rc,c,m,d,k,e] t now tab∧(ldz Y ∣ ldz R→er=0∧Io vf w5.w.heap.size u ub cz):=by
    intro v v' vf u ub er C0 RR e1 x2 e3 hE' k1 k2;refine⟨((ed.trans e1).any.trans x2).trans e3.any,hE'.ext e3,λh=>⟨(k1 h).1,(On.ext (k1 h).2.1 e3).less (ed.trans e1).size,(k1 h).2.2⟩⟩
   have fR:∀w',Xt1 t w2 w'→Eg w' p [zd,zm,pz,mo,hg,g,po,nu,ra,ro,dv,rc,c,m,d,k,e] t now tab→exz Y K X []=none→Rt (λk=>k=t) [.one .slice,.one (.int .i64)] (λ(s:Sl)(er:Int) w'=>(Y=[]→er=2∧s=Sl.nil)∧(Y≠[]→(exz Y K X []=none→er=5∧s=Sl.nil)∧∀q,exz Y K X []=some q→er=0∧Rq (dg W64) w' s (ae q)∧hgt q≤200000)∧Eg w' p [zd,zm,pz,mo,hg,g,po,nu,ra,ro,dv,rc,c,m,d,k,e] t now tab) w (.tuple #[.slice none 0 0,.int .i64 5]) w':=λw' x' hE' hnone=>
    rt2 (c:=.slice) (d:=.int .i64) Sl.nil 5 (e12.any.trans x') ⟨λh=>absurd h hne,λ_=>⟨λ_=>⟨rfl,rfl⟩,λq hq=>by rw [hnone] at hq;cases hq⟩,hE'.at⟩
   refine hEd.down7 λ_ _ _ _ _ _ _ _ _ _ _ _ _ _ E7 H7=>?_
   refine⟨hLe (Ext.refl _ _) λr1 r2 w6 e6 l6=>bq (H7.ext e6) ⟨hYe e6 λr3 r4 w7 e7 l7=>?_,λw24 e24=>?_⟩,λw33 e33=>?_⟩
   ·have e67:=e6.trans e7;refine bq (H7.ext e67) ⟨?_,λw16 e16=>?_⟩
    ·refine hEv e67 (E7.ext e67) (El.ext l6 e7) l7 λx y er w8 x8 hE8 k1 k2=>?_
     have H8:=((H7.ext e67).extT x8).tail;refine bq H8 λw9 e9=>bq (H8.ext e9) λw10 e10=>?_
     obtain⟨m1,m2,m3⟩:=aft (C0:=λ_ _=>True) (RR:=λ_ _=>True) e67 x8 (e9.trans e10) hE8 k1 k2;exact tl m1 m2 m3 k2 fR λs' w' h=>h
    ·have e716:=e67.trans e16;refine bq (H7.ext e716) (hEv e716 (E7.ext e716) (El.ext l6 (e7.trans e16)) (El.ext l7 e16) λx y er w8 x8 hE8 k1 k2=>?_);have H8:=((H7.ext e716).extT x8).tail;refine bq H8 λw9 e9=>?_
     obtain⟨m1,m2,m3⟩:=aft (C0:=λ_ _=>True) (RR:=λ_ _=>True) e716 x8 e9 hE8 k1 k2;exact tl m1 m2 m3 k2 fR λs' w' h=>h
   ·have e624:=e6.trans e24;refine bq (H7.ext e624) (hYe e624 λr3 r4 w7 e7 l7=>?_);have e67:=e624.trans e7;refine bq (H7.ext e67) (hEv e67 (E7.ext e67) (El.ext l6 (e24.trans e7)) l7 λx y er w8 x8 hE8 k1 k2=>?_);have H8:=((H7.ext e67).extT x8).tail;refine bq H8 λw9 e9=>?_
    obtain⟨m1,m2,m3⟩:=aft (C0:=λ_ _=>True) (RR:=λ_ _=>True) e67 x8 e9 hE8 k1 k2;exact tl m1 m2 m3 k2 fR λs' w' h=>h
   ·refine bq (H7.ext e33) (hLe e33 λr1 r2 w6 e6 l6=>?_);have e36:=e33.trans e6;refine bq (H7.ext e36) (hYe e36 λr3 r4 w7 e7 l7=>?_);have e67:=e36.trans e7;refine bq (H7.ext e67) (hEv e67 (E7.ext e67) (El.ext l6 e7) l7 λx y er w8 x8 hE8 k1 k2=>?_);have H8:=((H7.ext e67).extT x8).tail;refine bq H8 λw9 e9=>?_
    obtain⟨m1,m2,m3⟩:=aft (C0:=λ_ _=>True) (RR:=λ_ _=>True) e67 x8 e9 hE8 k1 k2;exact tl m1 m2 m3 k2 fR λs' w' h=>h
  ·exact⟨n,R,Q,L,hr,hL,gL,nQ,om,by rw [lL];split<;>omega,om,hex,x5,hE5⟩
 rintro r w43 ⟨n,R,Q,L,hr,hL,gL,nQ,gQ,lL,hRY,hex,x43,hE43⟩;have nr:=hr.rq.len;rw [nr];have hsh:=mM (q:=Q) (n:=n) hRY;rw [←hex] at hsh;have z43:Xt1 t w.here w43:=e12.any.trans x43;refine ac (λh=>?_) (λh=>?_)
 ·have hRne:R≠[]:=λe=>by rw [e,List.length_nil] at h;omega
  rw [if_neg hRne] at hsh;exact rt2 (c:=.slice) (d:=.int .i64) Sl.nil 5 z43 ⟨λh=>absurd h hne,λ_=>⟨λ_=>⟨rfl,rfl⟩,λq hq=>by rw [hsh] at hq;cases hq⟩,hE43.at⟩
 ·have hRn:R=[]:=List.length_eq_zero_iff.1 om;rw [if_pos hRn] at hsh;refine c1 (polyz_Norm hL.rq.ri om λi=>by rw [gL];exact Nat.le_trans (ni gQ i) dcd) λs15 w44 e44 h44=>?_
  have:ae L=ae Q:=(Nm.trim _).ext (Nm.trim _) λi=>by rw [bQ,bQ,gL]
  rw [this] at h44;exact rt2 (c:=.slice) (d:=.int .i64) s15 0 (z43.trans e44.any) ⟨λh=>absurd h hne,λ_=>⟨λhn=>(by rw [hsh] at hn;cases hn),λq hq=>(by rw [hsh] at hq;cases hq;exact⟨rfl,h44.rq.at,gQ⟩)⟩,(hE43.ext e44).at⟩
end
end
theorem abu(R Y:List Int)(h:Nat)(c:Int):Sb R (shy h (Sc c Y))=Sb R (shz h (Sc c Y)):=uw λi=>qQ _ _ i
theorem abv(Q:List Int)(h:Nat)(c:Int):Ad Q (shy h [c])=Ad Q (shz h [c]):=zY λi=>qQ _ _ i
set_option maxHeartbeats 2000000 in
theorem sj{w:TW}{a b:Sl}{X Y:List Int}{A B:Nat}(ha:Rq (dg B32) w a X)(hb:Rq (dg B32) w b Y)(hXn:Nm X)(hYn:Nm Y)(hne:Y≠[])(hl:X.length≤1000)(hl2:Y.length≤1000)(hA:hgt X≤A)(hB:hgt Y≤B)(hB2:B≤200000)(hS:A+(X.length+1-Y.length)*(B+1)≤200000):Ct Pg F.bE [a.v,b.v] w aa [.one .slice,.one .bool] λ(s:Sl)(ok:Bool) w'=>(exz Y (X.length+1-Y.length) X []=none→ok=false)∧∀q,exz Y (X.length+1-Y.length) X []=some q→ok=true∧Rq (dg B32) w' s q∧Nm q∧hgt q≤200000∧q.length≤65536:=by
 refine Ct.bE ?_;unfold Sh.bE;have hpos:0<Y.length:=List.length_pos_iff.2 hne;have hlY:ldz Y≠0:=hYn.get hne;have hb:=hb.here;have nb:=hb.len;rw [nb];obtain⟨K,hK⟩:∃K,X.length+1-Y.length=K:=⟨_,rfl⟩;rw [hK] at hS ⊢;have hstep:∀{j:Nat},j≤K→A+j*(B+1)≤A+K*(B+1):=λhj=>Nat.add_le_add_left (Nat.mul_le_mul_right _ hj) _
 refine j2 (λ(r q:Sl) w71=>∃(n:Nat) (R Q:List Int),Rq (dg B32) w71 r R∧Rq (dg B32) w71 q Q∧Nm Q∧hgt Q≤200000∧Q.length≤65536∧R.length<Y.length∧exz Y K X []=exz Y n R Q∧Ext aa w.here w71) ?_ ?_
 ·refine lp2 (λM (r q:Sl) w1=>∃(n j:Nat) (R Q:List Int),M=n∧n+j=K∧Rq (dg B32) w1 r R∧Nm R∧hgt R≤A+j*(B+1)∧R.length+1≤n+Y.length∧R.length≤X.length∧Rq (dg B32) w1 q Q∧(∀i,i+Y.length≤R.length→Q.getD i 0=0)∧Nm Q∧Q.length≤2000∧hgt Q≤A+K*(B+1)∧exz Y K X []=exz Y n R Q∧Ext aa w.here w1) K ⟨K,0,X,[],rfl,rfl,ha.here,hXn,om,om,Nat.le_refl _,(Oq.nil _ _ 0 T.aj).rq,λi _=>by simp,λz h=>by simp at h,smp,by simp [hgt],rfl,Ext.refl _ _⟩ ?_;rintro n r q w1 ⟨_,j,R,Q,rfl,hnj,hr,nR,gR,lR,lRX,hq,hQ0,nQ,lQ,gQ,hex,e1⟩;have nr:=hr.len;rw [nr];refine ac (λh=>?_) (λh=>?_)
  ·have hYR:Y.length≤R.length:=om;have hRne:R≠[]:=λe=>by rw [e,List.length_nil] at hYR;omega
   have gRK:A+j*(B+1)≤A+K*(B+1):=hstep om;have ed:Ext aa w1 w1.drew:=(Ext.refl _ _).drew;obtain⟨n',rfl⟩:∃n',n=n'+1:=⟨n-1,om⟩;obtain⟨H,hH⟩:∃H,R.length-Y.length=H:=⟨_,rfl⟩;obtain⟨cz,hcz⟩:∃cz,ldz R/ldz Y=cz:=⟨_,rfl⟩;have hjK:A+(j+1)*(B+1)≤A+K*(B+1):=hstep om;rw [Nat.add_mul,Nat.one_mul] at hjK;refine ah (y:=((H:Nat):Int)) ((aC om om).trans om) ?_;refine ah (y:=((R.length-1:Nat):Int)) ((aC om om).trans om) ?_;refine (hr.ext ed).ixh (j:=R.length-1) rfl om λa2 t2 hel2 hk2=>ldp (hk2 _ (Ext.refl _ _)).2.1 (hk2 _ (Ext.refl _ _)).2.2 ?_
   refine ah (y:=((Y.length-1:Nat):Int)) ((aC om om).trans om) ?_;refine (hb.ext (e1.trans ed)).ixh (j:=Y.length-1) rfl om λa3 t3 hel3 hk3=>ldp (hk3 _ (Ext.refl _ _)).2.1 (hk3 _ (Ext.refl _ _)).2.2 ?_
   have hzR:Zr w1.drew t2.1 t2.2 (ldz R):=hel2.zr;have hzY:Zr w1.drew t3.1 t3.2 (ldz Y):=hel3.zr;have bR:bl (ldz R).natAbs≤200000:=Nat.le_trans (fI gR _) om;have bY:bl (ldz Y).natAbs≤200000:=Nat.le_trans (fI hB _) hB2
   have tr:∀{v:TW} {KK:Sl→Bool→Sl→Bool→TW→Prop},Ext aa w1.drew v→(∀q1 qb r1 rb v',Ext aa v v'→Zr v' q1 qb ((ldz R).tdiv (ldz Y))→Zr v' r1 rb ((ldz R).tmod (ldz Y))→KK q1 qb r1 rb v')→cl Pg F.aH [.agg #[t2.1.v,.bool t2.2],.agg #[t3.1.v,.bool t3.2]] v [.agg [.slice,.bool],.agg [.slice,.bool]] KK:=by
    intro v KK ev hK;refine cl0 (tn (hzR.ext ev) (hzY.ext ev) hlY (Nat.le_trans (kl (dB bR)) dcd) (Nat.le_trans (kl (dB bY)) dcd)) ?_;intro q1 qb r1 rb v' e' h';exact hK q1 qb r1 rb v' e' h'.1 h'.2.1
   have hl4:∀{v:TW} {KK:Prop},Ext aa w1.drew v→KK→hld v [(a3.add 0,t3.1.v),(a3.add 1,.bool t3.2),(a2.add 0,t2.1.v),(a2.add 1,.bool t2.2)] KK:=λev hK=>⟨λy hy=>by
    simp only [List.mem_cons,List.not_mem_nil,or_false] at hy;rcases hy with rfl|rfl|rfl|rfl
    ·exact (hk3 _ ev).2.1
    ·exact (hk3 _ ev).2.2
    ·exact (hk2 _ ev).2.1
    ·exact (hk2 _ ev).2.2,hK⟩
   have tl:∀{v v7:TW} {u r1:Sl} {ub rb:Bool} {C0:Sl→Sl→TW→Prop} {RR:Value→TW→Prop},Ext aa w1.drew v→Ext aa v v7→Zr v u ub ((ldz R).tdiv (ldz Y))→Zr v r1 rb ((ldz R).tmod (ldz Y))→(∀w',Ext aa w.here w'→exz Y K X []=none→RR (.tuple #[.slice none 0 0,.bool false]) w')→(∀s' q' w',(∃M',M'<n'+1∧∃(n j:Nat) (R Q:List Int),M'=n∧n+j=K∧Rq (dg B32) w' s' R∧Nm R∧hgt R≤A+j*(B+1)∧R.length+1≤n+Y.length∧R.length≤X.length∧Rq (dg B32) w' q' Q∧(∀i,i+Y.length≤R.length→Q.getD i 0=0)∧Nm Q∧Q.length≤2000∧hgt Q≤A+K*(B+1)∧exz Y K X []=exz Y n R Q∧Ext aa w.here w')→C0 s' q' w')→
     cl Pg F.aB [.agg #[r1.v,.bool rb]] v7 [.one .bool] λ(ok:Bool) w7=>cond (!ok) (RR (.tuple #[.slice none 0 0,.bool false]) w7) (nwb w7 [u.v,.bool ub] T.aj λb1 w8=>cl Pg F.am [.slice (some ⟨b1,0,none⟩) 1 1,.int .i64 ((H:Nat):Int)] w8 [.one .slice] λ(s:Sl) w9=>cl Pg F.aN [q.v,s.v] w9 [.one .slice] λ(s1:Sl) w10=>cl Pg F.aE [b.v,.agg #[u.v,.bool ub]] w10 [.one .slice] λ(s2:Sl) w11=>cl Pg F.am [s2.v,.int .i64 ((H:Nat):Int)] w11 [.one .slice] λ(s3:Sl) w12=>cl Pg F.aM [r.v,s3.v] w12 [.one .slice] λ(s4:Sl) w13=>C0 s4 s1 w13):=by
    intro v v7 u r1 ub rb C0 RR ev e7 hu hr1 hRR hC0;refine c1 (qq (hr1.ext e7)) ?_;rintro ok w7 e77 rfl;have e17:=((e1.trans ed).trans ev).trans (e7.trans e77);by_cases hdv:ldz Y ∣ ldz R
    ·refine aq (by simp [rF.2 hdv]) ?_;rw [rI hdv,hcz] at hu;have eu:=e7.trans e77;have e1_7:=((ed.trans ev).trans eu);refine abF (hu.ext eu) λb1 w8 h8 e8=>?_
     refine c1 (pH (a:=⟨some ⟨b1,0,none⟩,1,1⟩) h8 smp om) λs w9 e9 h9=>?_
     have bcz:bl cz.natAbs≤A+j*(B+1):=by
      rw [←hcz];exact bi (Nat.lt_of_le_of_lt (Int.natAbs_ediv_le_natAbs _ _) (Nat.lt_of_lt_of_le (fj (ldz R).natAbs) (Nat.pow_le_pow_right dcd (fI gR _))))
     have g1:hgt [cz]≤A+j*(B+1):=gn λi=>by
      match i with
      | 0=>exact bcz
      | i+1=>simp [fJ]
     have ls:=vj H [cz];have ls2:=vj H (Sc cz Y);have lSc:=yq cz Y;simp only [List.length_singleton] at ls;refine c1 (xu (hq.ext (e1_7.trans (e8.trans e9))) h9 om om om (Nat.le_trans (vA g1) om)) λs1 w10 e10 h10=>?_
     have e810:=(e8.trans e9).trans e10;refine c1 (uG (hb.ext (e17.trans e810)) (hu.ext (eu.trans e810)) om om om) λs2 w11 e11 h11=>?_
     have gSc:hgt (Sc cz Y)≤B+(A+j*(B+1)):=tX hB bcz;refine c1 (pH h11 om om) λs3 w12 e12 h12=>?_
     have e812:=(e810.trans e11).trans e12;refine c1 (xp (hr.ext (e1_7.trans e812)) h12 om om om (Nat.le_trans (vA gSc) om)) λs4 w13 e13 h13=>?_
     rw [abu] at h13;have h10:=h10.ext ((e11.trans e12).trans e13);rw [abv] at h10;have hlt:=rk hne hYR hdv;have hgr:=vC hdv gR hB;rw [hH,hcz] at hlt hgr;refine hC0 s4 s1 w13 ⟨n',om,n',j+1,_,_,rfl,om,h13,Nm.trim _,?_,om,om,h10,λi hi=>?_,Nm.trim _,?_,?_,?_,e17.trans (e812.trans e13)⟩
     ·rw [Nat.add_mul,Nat.one_mul];omega
     ·rw [ln,lm,if_neg om,hQ0 i om];rfl
     ·exact Nat.le_trans (ach _ _) (by
       have:(shz H [cz]).length=H+1:=by simp [shz]
       omega)
     ·refine gn λi=>?_
      rw [ln,lm];by_cases h':i=H
      ·rw [if_pos h',h',hQ0 H om,Int.zero_add];omega
      ·rw [if_neg h',Int.add_zero];exact fI gQ i
     ·rw [hex,qa hYR hdv,hH,hcz]
    ·refine bg (by rw [decide_eq_false (λh=>hdv (rF.1 h))];rfl) (hRR w7 e17 ?_);rw [hex,ue hYR hdv]
   have fR:∀w',Ext aa w.here w'→exz Y K X []=none→Rt aa [.one .slice,.one .bool] (λ(s:Sl)(ok:Bool) w'=>(exz Y K X []=none→ok=false)∧∀q,exz Y K X []=some q→ok=true∧Rq (dg B32) w' s q∧Nm q∧hgt q≤200000∧q.length≤65536) w (.tuple #[.slice none 0 0,.bool false]) w':=λw' x' hnone=>
    rt2 (c:=.slice) (d:=.bool) Sl.nil false x' ⟨λ_=>rfl,λq hq=>(by rw [hnone] at hq;cases hq)⟩
   refine⟨tr (Ext.refl _ _) λu ub r1 rb w2 e2 hu hr1=>⟨λw3 e3 w4 e4 w5 e5 w6 e6=>?_,λw14 e14 w15 e15 w16 e16 w17 e17=>?_⟩,λw25 e25=>hl4 e25 ⟨tr e25 λu ub r1 rb w26 e26 hu hr1 w27 e27 w28 e28 w29 e29=>?_,λw37 e37=>hl4 (e25.trans e37) (tr (e25.trans e37) λu ub r1 rb w38 e38 hu hr1 w39 e39 w40 e40=>?_)⟩,λw48 e48=>hl4 e48 ⟨tr e48 λu ub r1 rb w49 e49 hu hr1 w50 e50 w51 e51 w52 e52=>?_,λw60 e60=>hl4 (e48.trans e60) (tr (e48.trans e60) λu ub r1 rb w61 e61 hu hr1 w62 e62 w63 e63=>?_)⟩⟩
   ·exact tl e2 (((e3.trans e4).trans e5).trans e6) hu hr1 fR λs' q' w' h=>h
   ·exact tl e2 (((e14.trans e15).trans e16).trans e17) hu hr1 fR λs' q' w' h=>h
   ·exact tl (e25.trans e26) ((e27.trans e28).trans e29) hu hr1 fR λs' q' w' h=>h
   ·exact tl ((e25.trans e37).trans e38) (e39.trans e40) hu hr1 fR λs' q' w' h=>h
   ·exact tl (e48.trans e49) ((e50.trans e51).trans e52) hu hr1 fR λs' q' w' h=>h
   ·exact tl ((e48.trans e60).trans e61) (e62.trans e63) hu hr1 fR λs' q' w' h=>h
  ·exact⟨n,R,Q,hr,hq,nQ,om,om,om,hex,e1⟩
 rintro r q w71 ⟨n,R,Q,hr,hq,nQ,gQ,lQ,hRY,hex,e71⟩;have nr:=hr.len;have hsh:=mM (q:=Q) (n:=n) hRY;rw [←hex] at hsh;refine rt2 (c:=.slice) (d:=.bool) q _ e71 ⟨λhn=>?_,λq' hq'=>?_⟩
 ·by_cases hRn:R=[]
  ·rw [if_pos hRn,hn] at hsh;cases hsh
  ·rw [nr];simp [hRn]
 ·by_cases hRn:R=[]
  ·rw [if_pos hRn,hq'] at hsh;cases hsh;exact⟨by rw [nr,hRn];rfl,hq.at,nQ,gQ,lQ⟩
  ·rw [if_neg hRn,hq'] at hsh;cases hsh
set_option maxHeartbeats 1000000 in
theorem zj{w:TW}{t:HL I11}{a b:Sl}{zs ys:List Int}(hG:Gl w)(ha:Ri w a zs)(hb:Ri w b ys)(even:Bool):Ct Pg F.bD [.agg (aT I11 t).toArray,a.v,b.v,.bool even] w aa [.one .bool] λ(r:Bool) _=>r=true:=by
 refine Ct.bD ?_;unfold Sh.bD;intro w1 e1;refine c2 (rV (n:=9) (k:=3) (ha.here.ext e1) dcd dcd) ?_;rintro s s1 w2 e2 ⟨X,lx,hs,hs1⟩;refine c2 (rV (n:=6) (k:=3) ((hb.here.ext e1).ext e2) dcd dcd) ?_;rintro s2 s3 w3 e3 ⟨Y,ly,ht,ht1⟩;have e13:=(e1.trans e2).trans e3;have gX:hgt (ae X)≤192:=xz hs;have gY:hgt (ae Y)≤192:=xz ht;have lX:=ap X;have lY:=ap Y;have hs1:=hs1.ext e3;have hs:=hs.ext e3;refine j13 (λ(a1 x:Sl)(_ _ _ _ _ _ _ _ _ _ _:Int) w6=>∃P:List Int,Ri w6 a1 P∧P.length≤14∧hgt (ae P)≤400∧Rq (dg B32) w6 x (ae P)∧(even=true→∃D,Nm D∧∀i,(ae P).getD i 0=(pm D (ae Y)).getD i 0)∧Ext aa w3 w6) ?_ ?_
 ·cases even with
  | false=>exact⟨X,hs.ri,om,om,hs1,λh=>(by cases h),Ext.refl _ _⟩
  | true=>
   refine bg rfl ?_;refine c1 (xr hs1 ht1 ⟨om,om,om⟩) λs4 w4 e4 h4=>?_
   have gP:=aaO (ae X) (ae Y);have bm:bl (min (ae X).length (ae Y).length)≤8:=bi om;have tP:ae (pmt (ae X) (ae Y))=pmt (ae X) (ae Y):=kK (mj _ _)
   have lP:(pmt (ae X) (ae Y)).length≤14:=by
    refine Nat.le_trans (ap _) ?_;by_cases h1:ae X=[]
    ·rw [h1];simp [pm]
    ·by_cases h2:ae Y=[]
     ·rw [h2]
      have:(pm (ae X) []).length≤(ae X).length:=by
       generalize ae X=L;induction L with
       | nil=>simp [pm]
       | cons x l ih=>simp only [pm,kt,List.map_nil,List.length_nil,List.length_cons];omega
      omega
     ·rw [tE h2 h1];omega
   refine c1 (tm h4 om λi=>Nat.le_trans (mw gP i) om) λs5 w5 e5 h5=>?_
   exact⟨pmt (ae X) (ae Y),h5.rq.ri,lP,by rw [tP];omega,by rw [tP];exact h4.ext e5,λ_=>⟨ae X,Nm.trim X,λi=>by rw [tP,jI]⟩,e4.trans e5⟩
 rintro a1 x t1 t2 t3 t4 t5 t6 t7 t8 t9 t10 t11 w6 ⟨P,hP,lP,gP,hx,hev,e6⟩;have e16:=e13.trans e6;refine vd (t:=(t1,t2,t3,t4,t5,t6,t7,t8,t9,t10,t11,())) (hG.here.ext e16) λp w7 zd zm pz mo hg g po nu ra ro dv rc c m d k e tt tab e7 hE htt hp=>aq (by rw [hp]) ?_
 have lPt:=ap P
 have hly:sz (ldz (ae Y)).natAbs≤3:=by
  unfold ldz;rw [bQ];exact ht.szs _
 have ht1:=ht1.ext (e6.trans e7);refine tM hE.tz (sf wZ (qc lV) hE (hP.ext e7) (ht.ri.ext (e6.trans e7)) om om gP gY om dcd (λT h1 h2=>Shw.of om om om) (λz hz=>⟨Nat.le_trans (dB hz) om,.inl hly⟩) dcd dcd) ?_;rintro s6 r w8 x8 ⟨hp1,hp2,hE8⟩;have hx:=(hx.ext e7).extT hE.tz x8;have ht1:=ht1.extT hE.tz x8;have nt:=ht1.len
 have fin:∀{w9:TW},Ext aa w8 w9→Rt aa [.one .bool] (λ(r:Bool) _=>r=true) w (.bool true) w9:=fun {w9} e9=>by
  refine rt1 (c:=.bool) true ?_ rfl;exact (e16.trans e7).own (x8.trans e9.any) λc hc=>by subst hc;exact Nat.le_trans e16.size htt
 by_cases hY:ae Y=[]
 ·refine bg (by rw [nt,hY];rfl) ?_;obtain⟨rfl,rfl⟩:=hp1 hY;refine j1 (λ(x:Bool) w10=>x=true∧Ext aa w8 w10) ?_ ?_
  ·exact bg rfl (bg rfl (yu hE8.gl λw9 e9=>⟨rfl,e9⟩))
  rintro x w10 ⟨rfl,e10⟩;exact fin e10
 refine aq (by rw [nt];simp;exact hY) ?_;obtain⟨k1,k2⟩:=hp2 hY;refine c2 (sj hx ht1 (Nm.trim P) (Nm.trim Y) hY om om gP gY dcd om) ?_;rintro s7 ok1 w11 e11 ⟨q1,q2⟩;cases hz:exz (ae Y) ((ae P).length+1-(ae Y).length) (ae P) [] with
 | none=>
  obtain⟨rfl,rfl⟩:=k1 hz;have:=q1 hz;subst this;refine bg rfl ?_
  have hevf:even=false:=by
   cases even with
   | false=>rfl
   | true=>
    obtain⟨D,hD,hDe⟩:=hev rfl;obtain⟨q',hq',-⟩:=ab0 hY (Nm.trim Y) (n:=(ae P).length+1-(ae Y).length) (q:=[]) hD (Nm.trim P) hDe (by have:=List.length_pos_iff.2 hY;omega);rw [hz] at hq';cases hq'
  subst hevf;refine j1 (λ(x:Bool) w13=>x=true∧Ext aa w11 w13) ?_ ?_
  ·exact bg rfl (bg rfl (bg rfl (yu (hE8.gl.ext e11) λw12 e12=>⟨rfl,e12⟩)))
  rintro x w13 ⟨rfl,e13⟩;exact fin (e11.trans e13)
 | some q=>
  obtain⟨rfl,h6,-⟩:=k2 q hz;obtain⟨rfl,h7,nq,gq,lq⟩:=q2 q hz;rw [show ae q=q from kK nq] at h6;refine aq rfl ?_;refine j1 (λ(x:Bool) w16=>x=true∧Ext aa w11 w16) ?_ ?_
  ·refine bg rfl (abw h7 (h6.ext e11) om om λw14 e14=>bg rfl ?_);exact yu (hE8.gl.ext (e11.trans e14)) λw15 e15=>⟨rfl,e14.trans e15⟩
  rintro x w16 ⟨rfl,e16⟩;exact fin (e11.trans e16)
end Go.Proofs.YtpbimnlggalnfaaGreatDoor.Zg
