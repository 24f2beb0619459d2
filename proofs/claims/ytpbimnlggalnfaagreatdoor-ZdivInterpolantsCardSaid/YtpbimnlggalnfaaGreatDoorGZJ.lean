/- A part of the proofs of this seat's laws. -/
import Derived.Test.YtpbimnlggalnfaaGreatDoorGZG
set_option linter.unusedVariables false
set_option linter.unusedSimpArgs false
set_option linter.unnecessarySimpa false
namespace Go.Proofs.YtpbimnlggalnfaaGreatDoor.Zg
open Go.RowKit
section
variable {w:TW} {s:Sl} {zs:List Int} {n:Nat}
theorem yu{xs ys:List Int}{L:Int}{cc:Nat→Int}(hL:L≠0)(hD:Dst xs)(hcc:∀i,i<xs.length→cc i*dnz xs i xs.length=L*ys.getD i 0)(j:Nat):
  (L ∣ ips xs cc xs.length j xs.length↔(irs xs ys xs.length 0 xs.length).2 ∣ (irs xs ys xs.length j xs.length).1)∧(L ∣ ips xs cc xs.length j xs.length→ips xs cc xs.length j xs.length/L=(irs xs ys xs.length j xs.length).1/(irs xs ys xs.length 0 xs.length).2):=by
 have h:=vi (xs:=xs) (ys:=ys) (n:=xs.length) (j:=j) (c:=cc) (B:=L) (m:=xs.length) hcc;rw [oG (j:=0) (j':=j)];exact xV h hL (qK λi hi=>qx λk hk hne=>hD.ne hi hk hne)
theorem j13{c1 c2 c3 c4 c5 c6 c7 c8 c9 c10 c11 c12 c13:CK}{A:(CV c1→CV c2→CV c3→CV c4→CV c5→CV c6→CV c7→CV c8→CV c9→CV c10→CV c11→CV c12→CV c13→TW→Prop)→Prop}{K:CV c1→CV c2→CV c3→CV c4→CV c5→CV c6→CV c7→CV c8→CV c9→CV c10→CV c11→CV c12→CV c13→TW→Prop}(J:CV c1→CV c2→CV c3→CV c4→CV c5→CV c6→CV c7→CV c8→CV c9→CV c10→CV c11→CV c12→CV c13→TW→Prop)(h1:A J)(h2:∀x1 x2 x3 x4 x5 x6 x7 x8 x9 x10 x11 x12 x13 w,J x1 x2 x3 x4 x5 x6 x7 x8 x9 x10 x11 x12 x13 w→K x1 x2 x3 x4 x5 x6 x7 x8 x9 x10 x11 x12 x13 w):Jn [c1,c2,c3,c4,c5,c6,c7,c8,c9,c10,c11,c12,c13] A K:=⟨J,h1,h2⟩
theorem uS{m:Nat}(h:Rb w s zs n)(hm:n≤m):Rb w s zs m:=by
 obtain⟨ts,g1,g2,g3⟩:=h;exact⟨ts,g1,g2,λi hi=>⟨(g3 i hi).1,Nat.le_trans (g3 i hi).2 hm⟩⟩
theorem Rb.extT{w':TW}{t:Nat}(h:Rb w s zs n)(hE:Tz w t)(e:Xt1 t w w'):Rb w' s zs n:=h.imp λts h=>⟨h.1.extT (qs ts) hE e,h.2.1,λi hi=>⟨(h.2.2 i hi).1.extT hE e,(h.2.2 i hi).2⟩⟩
theorem Rb.slc{k:Nat}{hi:Int}(h:Rb w s zs n)(hk:k≤zs.length)(hhi:hi=k){K:Sl→Prop}(hK:Rb w (s.cut 0 k 2) (zs.take k) n→K (s.cut 0 k 2)):slc s 0 hi 2 K:=by
 subst hhi;have hn:=h.ri.len;obtain⟨ts,g1,-,-⟩:=id h;have:=g1.2.1;exact⟨Int.le_refl _,om,om,hK (h.cut hk)⟩
set_option maxHeartbeats 1000000 in
theorem uw{t:HL I11}{x y:Sl}{zs us:List Int}(hG:Gl w)(hx:Ri w x zs)(hy:Ri w y us)(fit whole:Bool):Ct Pg F.aU [.agg (aX I11 t).toArray,x.v,y.v,.bool fit,.bool whole] w aa [.one .bool] λ(r:Bool) _=>r=true:=by
 refine Ct.aU ?_;unfold Sh.aU;intro w1 e1;refine c1 (lV (hx.here.ext e1) dcd) ?_;rintro s w2 e2 ⟨X,hX,lX⟩;refine c1 (lV ((hy.here.ext e1).ext e2) dcd) ?_;rintro s1 w3 e3 ⟨Y,hY,lY⟩;have hX:=hX.ext e3;have e13:=(e1.trans e2).trans e3;refine j13 (λ(x1:Sl)(y1:Sl)(_ _ _ _ _ _ _ _ _ _ _:Int) w4=>∃X Y,X.length≤7∧Y.length≤7∧Rb w4 x1 X 1∧Rb w4 y1 Y 2∧Ext aa w.here w4) ?_ ?_
 ·cases fit with
  | false=>exact⟨X,Y,lX,lY,hX,hY,e13⟩
  | true=>
   have nX:=hX.ri.len;have nY:=hY.ri.len;refine aZ rfl (ak (y:=((min X.length Y.length:Nat):Int)) (by rw [nX,nY];split<;>omega) ?_);refine hX.slc (k:=min X.length Y.length) om rfl λh1=>?_
   refine hY.slc (k:=min X.length Y.length) om rfl λh2=>?_
   exact⟨_,_,Nat.le_trans (List.length_take_le' _ _) lX,Nat.le_trans (List.length_take_le' _ _) lY,h1.ext (Ext.refl _ _).drew,h2.ext (Ext.refl _ _).drew,e13.drew⟩
 rintro x1 y1 t1 t2 t3 t4 t5 t6 t7 t8 t9 t10 t11 w4 ⟨X,Y,lX,lY,hX,hY,e4⟩;have nX:=hX.ri.len;have nY:=hY.ri.len;have bX:∀k,bl (xg X k).natAbs≤64:=λk=>hX.hg k
 refine j12 (λ(x2:Bool)(_ _ _ _ _ _ _ _ _ _ _:Int) w5=>Ext aa w4 w5) ?_ ?_
 ·cases whole with
  | false=>exact Ext.refl _ _
  | true=>exact Ext.refl _ _
 intro x2 t12 t13 t14 t15 t16 t17 t18 t19 t20 t21 t22 w5 e5;have hX:=hX.ext e5;have hY:=hY.ext e5;have e5:=e4.trans e5;refine j12 (λ(y4:Sl)(_ _ _ _ _ _ _ _ _ _ _:Int) w14=>∃Y,Y.length≤7∧Rb w14 y4 Y 16∧(∀k,bl (Y.getD k 0).natAbs≤1000)∧Ext aa w5 w14) ?_ ?_
 ·cases x2 with
  | false=>exact⟨Y,lY,uS hY dcd,λk=>Nat.le_trans (hY.hg k) dcd,Ext.refl _ _⟩
  | true=>
   refine aZ rfl ?_;refine c1 (qe hY dcd om) λs4 w6 e6 h4=>?_
   have h4:=h4.rq;have hg4:hgt (ag Y)≤128:=by rw [gw];exact bW hY.hg
   have l4:=au Y;have hX6:=hX.ext e6;refine j12 (λ(y3:Sl)(_ _ _ _ _ _ _ _ _ _ _:Int) w13=>∃Z,Z.length=X.length∧Oq (dg W64) w13 w5.w.heap.size T.ah y3 Z∧(∀k,bl (Z.getD k 0).natAbs≤1000)∧Ext aa w6 w13) ?_ ?_
   ·refine aaI (λM (y2:Sl) (i1:Int) (_ _ _ _ _ _ _ _ _ _ _:Int) w7=>∃(i:Nat) (Z:List Int),i1=i∧M=X.length-i∧i≤X.length∧Z.length=i∧Oq (dg W64) w7 w6.w.heap.size T.ah y2 Z∧(∀k,bl (Z.getD k 0).natAbs≤1000)∧Ext aa w6 w7) X.length ⟨0,[],rfl,om,om,rfl,Oq.nil _ _ _ _,λk=>by simp [em],Ext.refl _ _⟩ ?_;rintro M y2 i1 _ _ _ _ _ _ _ _ _ _ _ w7 ⟨i,Z,rfl,rfl,hi,lZ,hZ,bZ,e7⟩;refine ac (λh=>?_) (λh=>?_)
    ·have hX7:=hX6.ext e7;obtain⟨ts,tx1,tx2,tx3⟩:=hX7;refine tx1.at2 (j:=i) rfl om λa1 _ q0 q1=>ldp q0 q1 ?_
     obtain⟨zx1,zx2⟩:=tx3 i om;refine cl0 (ko zx1 om) ?_;intro r r1 w8 e8 hr;obtain⟨hr,-⟩:=hr;have hr:Zr w8 r r1 (X.getD i 0):=hr;refine cl0 (xS ((h4.ext e7).ext e8) hr om hg4 (bX i)) ?_;intro r2 r3 w9 e9 hr2;obtain⟨z,hz,bz⟩:=hr2;have hz:Zr w9 r2 r3 z:=hz;refine cl0 (pC hz (Nat.le_trans (iA (dN bz)) dcd)) ?_;intro r4 r5 w10 e10 hr4;have hr4:Io w10 w9.w.heap.size r4 r5 z:=hr4;have e710:=(e8.trans e9).trans e10;refine (hZ.ext e710).push (e7.trans e710) om hr4.el (λhne c hc=>⟨λhs=>?_,(Ow.from_ hr4.1 c hc).2⟩) λs' w12 h12 e12 _=>ab om om ⟨X.length-(i+1),om,i+1,Z++[z],om,rfl,om,by simp [lZ],h12,λk=>?_,e12⟩
     ·have h1:=(Ow.from_ hr4.1 c hc).1;have h2:=(hZ.lt_blk c hs).2;have:=(e8.trans e9).size;omega
     ·rw [rf];split
      ·exact bz
      ·exact bZ k
    ·exact⟨Z,om,hZ.less e6.size,bZ,e7⟩
   rintro y3 t34 t35 t36 t37 t38 t39 t40 t41 t42 t43 t44 w13 ⟨Z,lZ,hZ,bZ,e13⟩;exact⟨Z,om,hZ.rq.rb λi=>Nat.le_trans (dN (bZ i)) dcd,bZ,e6.trans e13⟩
 rintro y4 t45 t46 t47 t48 t49 t50 t51 t52 t53 t54 t55 w14 ⟨Y,lY,hY,bY,e14⟩;have hX:=hX.ext e14;have e14:=e5.trans e14;refine oO (t:=(t45,t46,t47,t48,t49,t50,t51,t52,t53,t54,t55,())) (hG.here.ext e14) λp w15 zd zm pz mo hg g po nu ra ro dv rc c m d k e tt tab e15 hE htt hp=>aw (by rw [hp]) ?_
 have hX:=hX.ext e15;have hY:=hY.ext e15;refine tM hE.tz (lu hE hX.ri hY.ri lX lY bX bY dcd dcd) ?_;rintro s6 r6 w16 x16 ⟨hp1,hp2,hp3,hE16⟩;have hX16:Rb w16 x1 X 16:=uS (hX.extT hE.tz x16) dcd;have hY16:Rb w16 y4 Y 16:=hY.extT hE.tz x16;refine c2 (pj hX16 hY16 dcd lX lY bX bY) ?_;rintro s7 r7 w17 e17 ⟨hq1,hq2,hq3⟩;have hE17:=hE16.ext e17
 obtain⟨zs,he,h6,h7,lz,gz⟩:∃zs,r6=r7∧Rq (dg W64) w17 s6 zs∧Rq (dg B32) w17 s7 zs∧zs.length≤8∧hgt zs≤4700:=by
  have nil:∀{q:Int},r6=q∧s6=Sl.nil→r7=q∧s7=Sl.nil→∃zs,r6=r7∧Rq (dg W64) w17 s6 zs∧Rq (dg B32) w17 s7 zs∧zs.length≤8∧hgt zs≤4700:=by
   rintro q ⟨rfl,rfl⟩ ⟨h,rfl⟩;exact⟨[],h.symm,(Oq.nil _ _ 0 T.ah).rq,(Oq.nil _ _ 0 T.ae).rq,smp,by simp [hgt]⟩
  by_cases hlen:X.length=Y.length
  ·by_cases hD:Dst X
   ·obtain⟨L,cc,hL,hcc,i1,i2⟩:=hp3 hlen hD;obtain⟨k1,k2⟩:=hq3 hlen hD;have key:=yu hL hD hcc;by_cases hall:∀j,L ∣ ips X cc X.length j X.length
    ·obtain⟨rfl,r,hr,nr,gr⟩:=i1 hall;obtain⟨h7,r',hr',nr',lr',hgr',gr'⟩:=k1 λj=>(key j).1.1 (hall j)
     have:r=r':=nr.ext nr' λj=>by rw [gr,gr',(key j).2 (hall j)]
     subst this;exact⟨r,h7.symm,hr.ext e17,hr',lr',hgr'⟩
    ·exact nil (i2 hall) (k2 λh=>hall λj=>(key j).1.2 (h j))
   ·exact nil (hp2 hlen hD) (hq2 hlen hD)
  ·exact nil (hp1 hlen) (hq1 hlen)
 subst he;refine j1 (λ(x:Bool) w20=>x=true∧Ext aa w17 w20) ?_ ?_
 ·refine aZ smp ?_;refine sg h7 h6 om om λw18 e18=>aZ rfl ?_
  exact xI (hE17.gl.ext e18) λw19 e19=>⟨rfl,e18.trans e19⟩
 rintro x w20 ⟨rfl,e20⟩;refine rt1 (c:=.bool) true ?_ rfl;exact (e14.trans e15).own (x16.trans (e17.trans e20).any) λc hc=>by subst hc;exact Nat.le_trans e14.size htt
end
end Go.Proofs.YtpbimnlggalnfaaGreatDoor.Zg
