/- A part of the proofs of this seat's laws. -/
import Derived.Test.YtpbimnlggalnfaaGreatDoorGZC
import Derived.Test.YtpbimnlggalnfaaGreatDoorGA
import Derived.Test.YtpbimnlggalnfaaGreatDoorGMA
import Derived.Test.YtpbimnlggalnfaaGreatDoorGMB
import Derived.Test.YtpbimnlggalnfaaGreatDoorGMD
import Derived.Test.YtpbimnlggalnfaaGreatDoorGME
import Derived.Test.YtpbimnlggalnfaaGreatDoorGKA
import Derived.Test.YtpbimnlggalnfaaGreatDoorGKE
import Derived.Test.YtpbimnlggalnfaaGreatDoorGIA
import Derived.Test.YtpbimnlggalnfaaGreatDoorGKC
import Derived.Test.YtpbimnlggalnfaaGreatDoorGHA
import Derived.Test.YtpbimnlggalnfaaGreatDoorGB
import Derived.Test.YtpbimnlggalnfaaGreatDoorGIB
import Derived.Test.YtpbimnlggalnfaaGreatDoorGJA
import Derived.Test.YtpbimnlggalnfaaGreatDoorGJB
import Derived.Test.YtpbimnlggalnfaaGreatDoorGJC
import Derived.Test.YtpbimnlggalnfaaGreatDoorGHD
import Derived.Test.YtpbimnlggalnfaaGreatDoorGK
import Derived.Test.YtpbimnlggalnfaaGreatDoorGQ
import Derived.Test.YtpbimnlggalnfaaGreatDoorGMC
import Derived.Test.YtpbimnlggalnfaaGreatDoorGNA
import Derived.Test.YtpbimnlggalnfaaGreatDoorGNB
import Derived.Test.YtpbimnlggalnfaaGreatDoorGNC
import Derived.Test.YtpbimnlggalnfaaGreatDoorGND
import Derived.Test.YtpbimnlggalnfaaGreatDoorGP
import Derived.Test.YtpbimnlggalnfaaGreatDoorGP1
import Derived.Test.YtpbimnlggalnfaaGreatDoorGP2
import Derived.Test.YtpbimnlggalnfaaGreatDoorGP3
import Derived.Test.YtpbimnlggalnfaaGreatDoorGP4
import Derived.Test.YtpbimnlggalnfaaGreatDoorGP5
import Derived.Test.YtpbimnlggalnfaaGreatDoorGS
import Derived.Test.YtpbimnlggalnfaaGreatDoorGC
import Derived.Test.YtpbimnlggalnfaaGreatDoorGZA
import Derived.Test.YtpbimnlggalnfaaGreatDoorGZB
set_option linter.unusedVariables false
set_option linter.unusedSimpArgs false
set_option linter.unnecessarySimpa false
namespace Go.Proofs.YtpbimnlggalnfaaGreatDoor.Zg
open Go.RowKit
section
variable {na nb:Bool} {x y:Int} {a b:Sl} {n:Nat}
section
variable {w:TW} {p:Option Addr} {zd zm pz mo hg g po nu ra ro dv rc c m d k e t:Nat} {now:Int} {tab:List Int}
theorem szM(E:Nat):sz (16*2^E)≤(E+5)/64+1:=iq (by have:=Nat.two_pow_pos E;rw [Nat.pow_add];omega)
theorem Eg.down2z{b1 b2:Nat}{bs:List Nat}(h:Eg w p (b1::b2::bs) t now tab){K:Addr→Option Addr→Addr→Option Addr→Prop}(hK:∀a1 q1 a2 q2,Eg w q1 (b2::bs) t now tab→Eg w q2 bs t now tab→HcC w t [(a2,.pointer q2),(a1,.pointer q1)]→K a1 q1 a2 q2):nck p λa1=>ldc (.ptr) w a1 λ(q1:Option Addr)=>nck q1 λa2=>ldc (.ptr) w a2 λ(q2:Option Addr)=>K a1 q1 a2 q2:=
 h.downC λq1 E1 h1 n1=>E1.downC λq2 E2 h2 n2=>hK _ q1 _ q2 E1 E2 (.cons h2 n2 (.cons h1 n1 (.nil _)))
theorem mul_neg(hxn:x=if na=true then -(x.natAbs:Int) else x.natAbs)(hyn:y=if nb=true then -(y.natAbs:Int) else y.natAbs){z:Nat}(hz:z=x.natAbs*y.natAbs){bb:Bool}(hbb:bb=(!(na == nb)&&decide (z≠0))):bb=decide (x*y<0):=by
 obtain⟨X,hX⟩:∃X,x.natAbs=X:=⟨_,rfl⟩;obtain⟨Y,hY⟩:∃Y,y.natAbs=Y:=⟨_,rfl⟩;rw [hX] at hxn hz;rw [hY] at hyn hz;subst hbb;have hXY:(0:Int)≤(X:Int)*Y:=Int.mul_nonneg om om;have hzi:(z:Int)=(X:Int)*Y:=by rw [hz];push_cast;rfl
 rw [Bool.eq_iff_iff,Bool.and_eq_true,decide_eq_true_iff,decide_eq_true_iff];cases na<;>cases nb<;>simp at hxn hyn ⊢<;>rw [hxn,hyn]
 ·omega
 ·rw [Int.mul_neg];omega
 ·rw [Int.neg_mul];omega
 ·rw [Int.neg_mul_neg];omega
theorem pJ(hE:Eg w p [zd,zm,pz,mo,hg,g,po,nu,ra,ro,dv,rc,c,m,d,k,e] t now tab)(ha:Iz w a na x)(hb:Iz w b nb y)(hx:sz x.natAbs≤1048576)(hy:sz y.natAbs≤1048576)(h0:0≤now)(h1:now≤1000000000000000000):
  Ct Pg F.bi [.pointer p,.agg #[a.v,.bool na],.agg #[b.v,.bool nb]] w (λk=>k=t) [.agg [.slice,.bool]] λ(s:Sl)(n:Bool) w'=>Io w' w.w.heap.size s n (x*y)∧Eg w' p [zd,zm,pz,mo,hg,g,po,nu,ra,ro,dv,rc,c,m,d,k,e] t now tab:=by
 refine Ct.bi ?_;unfold Sh.bi;intro w1 e1 w2 e2 w3 e3;have e13:=((e1.trans e2).trans e3).drew;have hE:=hE.here.ext e13;have ha:=ha.here.ext e13;have hb:=hb.here.ext e13;refine hE.downC λq1 E1 k1 n1=>E1.downC λq2 E2 k2 n2=>E2.down11 λ_ _ _ _ _ _ _ _ _ _ _ _ _ _ _ _ _ _ _ _ _ _ E11 H11=>?_
 refine t1 hE.tz (kZ E11 ha.abs hb.abs om om h0 om) ?_;rintro s w4 x4 ⟨h4,E4⟩;have hE4:=hE.re x4 E4;refine aN (H11.extT x4 |>.tail |> λh=>HcC.app h ((HcC.cons k2 n2 (.cons k1 n1 (.nil _))).extT x4)) ?_;have y4:Xt1 t w.here w4:=e13.any.trans x4;refine j2 (λ(u:Sl)(bb:Bool) w8=>Ext aa w4 w8∧u=s∧bb=decide (x*y<0)) ?_ ?_
 ·refine aG (λh=>?_) (λh=>?_)
  ·refine c1 (dS h4.nt) ?_;rintro ok w5 e5 rfl;intro w6 e6;exact⟨e5.trans e6,rfl,mul_neg ha.neg_ hb.neg_ rfl (by rw [h];simp)⟩
  ·intro w7 e7;exact⟨e7,rfl,mul_neg ha.neg_ hb.neg_ rfl (by rw [h];simp)⟩
 rintro u bb w8 ⟨e8,rfl,rfl⟩;refine⟨(_,_,()),rfl,y4.trans e8.any,⟨?_,rfl⟩,(hE4.ext e8).at⟩;rw [Int.natAbs_mul];exact ((On.ext h4 e8).less e13.size).at
theorem acf(n:Nat)(z:Int):(List.replicate (n+1) (0:Int)).set n z=shz n [z]:=by
 unfold shz;rw [List.replicate_succ',List.set_append];simp
theorem zdiv_moved{s0:Sl}{n0:Bool}{z:Int}(hz:El (dg W64) w (s0,n0) z)(hn:n≤65536):Ct Pg F.eQ [.agg #[s0.v,.bool n0],.int .i64 n] w aa [.one .slice] λ(s:Sl) w'=>Rq (dg W64) w' s (shz n [z]):=by
 refine Ct.eQ ?_;unfold Sh.eQ;intro w1 e1;refine ab om om ?_;have hz1:El (dg W64) w1 (s0,n0) z:=El.ext ⟨hz.1.here,hz.2⟩ e1;refine rk (D:=dg W64) (az _) (N:=n+1) om om λs w2 h2 e2=>?_
 refine h2.set (z:=z) rfl smp (hz1.ext e2) (λhne c hc=>⟨λh'=>?_,Nat.lt_of_lt_of_le (hz1.1.lt_blk hne c hc) e2.size⟩) λw3 h3 e3=>?_
 ·have:=(h2.lt_blk c h').1;have:=hz1.1.lt_blk hne c hc;omega
 rw [acf] at h3;exact rt1 (c:=.slice) _ ((e1.trans e2).own e3 λc hc=>Nat.le_trans e1.size (h2.lt_blk c hc).1) h3.rq.at
theorem mf(h:Nat)(z:Int)(b:List Int)(i:Nat):(pmt (shz h [z]) b).getD i 0=if i<h then 0 else b.getD (i-h) 0*z:=by
 rw [iZ,vi,ir];split
 ·rfl
 ·rw [pm,bK,aZ smp,pm];have:(([0]:List Int)).getD (i-h) 0=0:=by cases (i-h)<;>simp
  rw [this];grind
theorem mF(h:Nat)(z:Int)(i:Nat):(shz h [z]).getD i 0=if i=h then z else 0:=by
 rw [ir];by_cases h1:i=h
 ·rw [if_pos h1,if_neg om,h1,Nat.sub_self];rfl
 ·rw [if_neg h1];by_cases h2:i<h
  ·rw [if_pos h2]
  ·rw [if_neg h2,gtb (by simp;omega)]
theorem kL{l:List Int}(h:hgt l≤n)(i:Nat):sz (l.getD i 0).natAbs≤n/64+1:=iq (fM (bp h i))
theorem sP(z:Int)(l:List Int):(Sc z l).length≤l.length:=Nat.le_trans (ao _) smp
set_option maxHeartbeats 1000000 in
def oR(P:List Int→List Int→Prop):Prop:=∀{w:TW} {p:Option Addr} {zm pz mo hg g po nu ra ro dv rc c m d k e t:Nat} {now:Int} {tab:List Int} {a b:Sl} {xs ys:List Int},Eg w p [zm,pz,mo,hg,g,po,nu,ra,ro,dv,rc,c,m,d,k,e] t now tab→Ri w a xs→Ri w b ys→P xs ys→0≤now→now≤1000000000000000000→
 Ct Pg F.ax [.pointer p,a.v,b.v] w (λk=>k=t) [.one .slice] λ(s:Sl) w'=>Rq (dg W64) w' s (pmt xs ys)∧Eg w' p [zm,pz,mo,hg,g,po,nu,ra,ro,dv,rc,c,m,d,k,e] t now tab
theorem uI{P:List Int→List Int→Prop}{xs ys:List Int}{A B:Nat}(hT:oR P)(hE:Eg w p [zd,zm,pz,mo,hg,g,po,nu,ra,ro,dv,rc,c,m,d,k,e] t now tab)(ha:Ri w a xs)(hb:Ri w b ys)(hl:xs.length≤65536)(hl2:ys.length≤65536)(h6:(ae xs).length≤16)(hA:hgt (ae xs)≤A)(hB:hgt (ae ys)≤B)(hS:A+((ae xs).length+1-(ae ys).length)*(B+1)≤200000)(hB2:B≤200000)(hP:∀(T:List Int) (j:Nat),j<(ae xs).length+1-(ae ys).length→T.length+(ae ys).length+j≤(ae xs).length+1→hgt T≤A+j*(B+1)→P T (ae ys))(h0:0≤now)(h1:now≤1000000000000000000):
  Ct Pg F.cX [.pointer p,a.v,b.v] w (λk=>k=t) [.one .slice,.one .slice,.one (.int .i64),.one (.int .i64)] λ(q r:Sl)(kk er:Int) w'=>(ae ys=[]→er=2∧q=Sl.nil∧r=Sl.nil∧kk=0)∧(ae ys≠[]→er=0∧kk=((ae xs).length+1-(ae ys).length:Nat)∧Rq (dg W64) w' q (prz (ae xs) (ae ys) ((ae xs).length+1-(ae ys).length)).1∧Rq (dg W64) w' r (lI (ae xs) (ae ys)))∧Eg w' p [zd,zm,pz,mo,hg,g,po,nu,ra,ro,dv,rc,c,m,d,k,e] t now tab:=by
 refine Ct.cX ?_;unfold Sh.cX
 have hzx:∀i,sz (xs.getD i 0).natAbs≤1099511627776:=λi=>by
  have:=kL hA i;rw [aT] at this;omega
 have hzy:∀i,sz (ys.getD i 0).natAbs≤1099511627776:=λi=>by
  have:=kL hB i;rw [aT] at this;omega
 refine c1 (polyz_Norm ha.here om hzx) λs w1 e1 hs=>?_
 refine c1 (polyz_Norm (hb.here.ext e1) om hzy) λs1 w2 e2 hs1=>?_
 have e12:=e1.trans e2;have hE2:=hE.here.ext e12;have hX:Nm (ae xs):=Nm.trim xs;have hY:Nm (ae ys):=Nm.trim ys;obtain⟨X,hXd⟩:∃X,ae xs=X:=⟨_,rfl⟩;obtain⟨Y,hYd⟩:∃Y,ae ys=Y:=⟨_,rfl⟩;have hYl:=ao ys;rw [hXd] at hs hX h6 hA hS hP ⊢;rw [hYd] at hs1 hY hB hYl hS hP ⊢;have hs:=(hs.ext e2).rq;have hs1:=hs1.rq;have n1:=hs.len;have n2:=hs1.len;by_cases hne:Y=[]
 ·subst hne;refine aQ (by rw [n2];rfl) ?_;exact rt4 (c:=.slice) (d:=.slice) (e:=.int .i64) (f:=.int .i64) Sl.nil Sl.nil 0 2 e12.any ⟨λ_=>⟨rfl,rfl,rfl,rfl⟩,λh=>absurd rfl h,hE2.at⟩
 have hpos:0<Y.length:=List.length_pos_iff.2 hne;refine ap (by rw [n2];simp;exact hne) ?_;rw [n1,n2];refine ab om om (ab om om ?_);obtain⟨K,hK⟩:∃K,X.length+1-Y.length=K:=⟨_,rfl⟩;rw [hK] at hS hP;refine ag (y:=((K:Nat):Int)) (by split<;>omega) ?_;refine cl0 (zdiv_lead hs1 hne om) ?_;intro r r1 w3 e3 hc;have hc:El (dg W64) w3 (r,r1) (ldz Y):=hc;intro w4 e4 w5 e5;have e35:=(e3.trans e4).trans e5;have hE5:=hE2.ext e35;have hsz:∀(L:List Int) (n:Nat),hgt L≤n→n≤400000→∀i,sz (L.getD i 0).natAbs≤6251:=λL n h1 h2 i=>Nat.le_trans (kL h1 i) om
 have hcz:sz (ldz Y).natAbs≤524288:=Nat.le_trans (hsz Y _ hB om _) dcd;have hc5:Iz w5 r r1 (ldz Y):=hc.iz.ext (e4.trans e5);have hs5:=hs.ext e35;have hs15:=hs1.ext e35;have hstep:∀{j:Nat},j≤K→A+j*(B+1)≤200000:=λhj=>Nat.le_trans (Nat.add_le_add_left (Nat.mul_le_mul_right _ hj) _) hS
 rw [hK];refine j5 (λ(q1:Sl)(r5:Sl)(left1:Int)(c2:Sl)(c3:Bool) w15=>c2=r∧c3=r1∧Xt1 t w5 w15∧Eg w15 p [zd,zm,pz,mo,hg,g,po,nu,ra,ro,dv,rc,c,m,d,k,e] t now tab∧∃(j:Nat) (Q R:List Int),j≤K∧left1=((K-j:Nat):Int)∧Rq (dg W64) w15 q1 Q∧Rq (dg W64) w15 r5 R∧Nm Q∧Nm R∧hgt Q≤A+j*(B+1)∧hgt R≤A+j*(B+1)∧Q.length≤65536∧R.length≤16∧(∀i,(ldz Y)^j*X.getD i 0=(pm Q Y).getD i 0+R.getD i 0)∧R.length<Y.length) ?_ ?_
 ·refine lp5 (λM (q1:Sl) (r5:Sl) (left1:Int) (c2:Sl) (c3:Bool) w6=>c2=r∧c3=r1∧Xt1 t w5 w6∧Eg w6 p [zd,zm,pz,mo,hg,g,po,nu,ra,ro,dv,rc,c,m,d,k,e] t now tab∧∃(j:Nat) (Q R:List Int),j≤K∧M=K-j∧left1=((K-j:Nat):Int)∧Rq (dg W64) w6 q1 Q∧Rq (dg W64) w6 r5 R∧Nm Q∧Nm R∧hgt Q≤A+j*(B+1)∧hgt R≤A+j*(B+1)∧Q.length≤16∧R.length+j≤X.length∧(∀i,(ldz Y)^j*X.getD i 0=(pm Q Y).getD i 0+R.getD i 0)) K ⟨rfl,rfl,Ext.refl _ _,hE5,0,[],X,om,om,om,(Oq.nil _ _ 0 T.af).rq,hs5,λz h=>by simp at h,hX,by simp [hgt],om,smp,om,λi=>by simp [pm]⟩ ?_;rintro M q1 r5 left1 c2 c3 w6 ⟨rfl,rfl,x6,hE6,j,Q,R,hj,rfl,rfl,hq,hr,nQ,nR,gQ,gR,lQ,lR,hid⟩;have nq:=hq.len;have nr:=hr.len;rw [nr];refine ac (λh=>?_) (λh=>?_)
  ·have hRp:0<R.length:=om;have hRne:R≠[]:=List.length_pos_iff.1 hRp;have hjK:j+1≤K:=om;have hst:=hstep hjK;have hst0:=hstep hj;rw [Nat.add_mul,Nat.one_mul] at hst;refine cl0 (zdiv_lead hr hRne om) ?_;intro r3 r4 w7 e7 ht;have ht:El (dg W64) w7 (r3,r4) (ldz R):=ht;refine ag (y:=((R.length-Y.length:Nat):Int)) ((ar om om).trans om) ?_;refine c1 (zdiv_moved ht om) λs2 w8 e8 hs2=>?_
   have e78:=e7.trans e8;have ed:=e78.drew;have hE8:=hE6.ext ed;have hs2:Rq (dg W64) w8.drew s2 (shz (R.length-Y.length) [ldz R]):=hs2.ext (Ext.refl _ _).drew;have hc8:=(hc5.extT hE5.tz x6).ext ed;refine hE8.down2z λ_ _ _ _ _ E2 H2=>?_
   refine t1 hE8.tz (jZ E2 (hq.ext ed).ri hc8 om (λi=>Nat.le_trans (hsz Q _ gQ om i) dcd) hcz h0 h1) ?_;rintro s3 w9 x9 ⟨hs3,E2'⟩;have H2:=(H2.extT x9).tail;have hE9:=hE8.re x9 E2';have hs2:=hs2.extT hE8.tz x9;refine aN H2 ?_;refine zE hs3.rq.ri hs2.ri λb1 w10 h10 e10=>?_
   refine aN (H2.ext e10) ?_
   have gT:hgt (shz (R.length-Y.length) [ldz R])≤A+j*(B+1):=oJ (dW λi=>by
    match i with
    | 0=>exact bp gR _
    | i+1=>simp [dX])
   have gSq:hgt (Sc (ldz Y) Q)≤A+j*(B+1)+B:=mG gQ (bp hB _);have lSq:(Sc (ldz Y) Q).length≤16:=Nat.le_trans (sP _ _) lQ;obtain⟨E0,hE0⟩:∃E,E=200000:=⟨_,rfl⟩;refine c1 (polyz_Plus (l:=⟨some ⟨b1,0,none⟩,2,2⟩) (M:=2^E0) h10 smp (λi=>?_) (λi i2=>?_) ?_) ?_
   ·match i with
    | 0=>show (Sc (ldz Y) Q).length≤_;omega
    | 1=>show (shz (R.length-Y.length) [ldz R]).length≤_;simp [shz];omega
    | i+2=>simp
   ·have key:∀L:List Int,hgt L≤E0→(L.getD i2 0).natAbs≤2^E0:=λL hL=>Nat.le_of_lt (fM (bp hL i2))
    match i with
    | 0=>exact key (Sc (ldz Y) Q) om
    | 1=>exact key (shz (R.length-Y.length) [ldz R]) om
    | i+2=>simp
   ·exact Nat.le_trans (szM E0) om
   rintro s4 w11 e11 ⟨Q',h4,nQ',hQ'⟩;have e911:=e10.trans e11;have H11:=H2.ext e911;refine aN H11 ?_;have ed11:=e911.drew;have hE11:=hE9.ext ed11;have x11:Xt1 t w6 w11.drew:=(ed.any.trans x9).trans ed11.any;have hr11:=(hr.extT hE6.tz x11);have hc11:=hc8.extT hE8.tz (x9.trans ed11.any);have hs11:=(hs15.extT hE5.tz x6).extT hE6.tz x11;have hs211:=hs2.ext ed11;refine hE11.downC λv2 V2 k3 n3=>V2.downC λv3 V3 _ _=>hE11.downC λv4 V4 k5 n5=>?_
   have H5:HcC w11.drew t [(_,.pointer v4),(_,.pointer v2)]:=.cons k5 n5 (.cons k3 n3 (.nil _));refine t1 hE11.tz (jZ V3 hr11.ri hc11 om (λi=>Nat.le_trans (hsz R _ gR om i) dcd) hcz h0 h1) ?_;rintro s5 w12 x12 ⟨hs5',V3'⟩;have H12:=H5.extT x12;refine aN H12 ?_;have hE12:=hE11.re x12 V3';have V4':Eg w12 v4 [zm,pz,mo,hg,g,po,nu,ra,ro,dv,rc,c,m,d,k,e] t now tab:=V4.re x12 V3';have lY:Y.length≤16:=om;have lT:(shz (R.length-Y.length) [ldz R]).length=R.length-Y.length+1:=by simp [shz]
   have lT2:=ao (shz (R.length-Y.length) [ldz R]);have lY2:=ao Y;have hKS:j*(B+1)+(B+1)≤K*(B+1):=by have:=Nat.mul_le_mul_right (B+1) hjK;rwa [Nat.add_mul,Nat.one_mul] at this
   refine t1 hE12.tz (hT V4' (hs211.extT hE11.tz x12).ri (hs11.extT hE11.tz x12).ri (hP _ j om om gT) h0 h1) ?_;rintro s6 w13 x13 ⟨hs6,V4''⟩;have hE13:=hE12.re x13 V4'';have H13:=(H12.extT x13).tail;refine aN H13 ?_
   have gP:hgt (pmt (shz (R.length-Y.length) [ldz R]) Y)≤A+j*(B+1)+B:=dW λi=>by
    rw [mf];split
    ·simp [dX]
    ·rw [Int.mul_comm];exact lh (bp gR _) (bp hB _)
   have gSr:hgt (Sc (ldz Y) R)≤A+j*(B+1)+B:=mG gR (bp hB _);have lSr:(Sc (ldz Y) R).length≤16:=Nat.le_trans (sP _ _) om
   have lP:(pmt (shz (R.length-Y.length) [ldz R]) Y).length≤16:=(Nm.trim (pm _ _)).len_le λi hi=>by
    have:=mf (R.length-Y.length) (ldz R) Y i;unfold pmt at this;rw [this,if_neg om,gtb om,Int.zero_mul]
   refine c1 (polyz_Minus (hs5'.rq.extT hE12.tz x13).ri hs6.ri om om (λi=>Nat.le_trans (hsz _ _ gSr om i) dcd) (λi=>Nat.le_trans (hsz _ _ gP om i) dcd)) ?_;intro s7 w14 e14 h7;refine aN (H13.ext e14) ?_
   have hQ2:∀i,Q'.getD i 0=Q.getD i 0*ldz Y+if i=R.length-Y.length then ldz R else 0:=λi=>by
    rw [hQ',←iB,←mF];simp [j8]
   have hst':=xk (a:=X) (b:=Y) (q:=Q) (r:=R) (c:=ldz Y) (t:=ldz R) (k:=j) (n:=R.length-1) (h:=R.length-Y.length) hne rfl om rfl hid (λi hi=>gtb om) (q':=Q') (r':=Sb (Sc (ldz Y) R) (pmt (shz (R.length-Y.length) [ldz R]) Y)) (λi=>?_) (λi=>?_)
   ·have x14:Xt1 t w6 w14:=((x11.trans x12).trans x13).trans e14.any;refine ab om om ⟨K-(j+1),om,rfl,rfl,x6.trans x14,hE13.ext e14,j+1,Q',_,hjK,rfl,om,(h4.rq.ext (Ext.refl _ _).drew:Rq _ w11.drew _ _) |>.extT hE11.tz ((x12.trans x13).trans e14.any),h7.rq,nQ',Nm.trim _,dW λi=>?_,dW λi=>?_,?_,?_,hst'.1⟩
    ·rw [hQ2 i,Nat.add_mul,Nat.one_mul];refine Nat.le_trans (qH (n:=A+j*(B+1)+B) (lh (bp gQ _) (bp hB _)) ?_) om;have:=bp gT i;rw [mF] at this;omega
    ·rw [kN,Nat.add_mul,Nat.one_mul];exact Nat.le_trans (qF (bp gSr i) (bp gP i)) om
    ·refine nQ'.len_le λi hi=>?_
     rw [hQ2,gtb (l:=Q) om,if_neg om];simp
    ·have:(Sb (Sc (ldz Y) R) (pmt (shz (R.length-Y.length) [ldz R]) Y)).length≤R.length-1:=(Nm.trim _).len_le hst'.2;omega
   ·exact hQ2 i
   ·rw [kN,iB,mf]
  ·exact⟨rfl,rfl,x6,hE6,j,Q,R,hj,rfl,hq,hr,nQ,nR,gQ,gR,om,om,hid,om⟩
 rintro q1 r5 left1 c2 c3 w15 ⟨rfl,rfl,x15,hE15,j,Q,R,hj,rfl,hq,hr,nQ,nR,gQ,gR,lQ,lR,hid,hlt⟩;refine j2 (λ(q:Sl)(r:Sl) w19=>Rq (dg W64) w19 q (prz X Y K).1∧Rq (dg W64) w19 r (lI X Y)∧Xt1 t w5 w19∧Eg w19 p [zd,zm,pz,mo,hg,g,po,nu,ra,ro,dv,rc,c,m,d,k,e] t now tab) ?_ ?_
 ·refine lp5 (λM (q2:Sl) (r6:Sl) (x:Int) (c4:Sl) (c5:Bool) w16=>c4=c2∧c5=c3∧Xt1 t w5 w16∧Eg w16 p [zd,zm,pz,mo,hg,g,po,nu,ra,ro,dv,rc,c,m,d,k,e] t now tab∧∃(i:Nat) (Q R:List Int),j+i≤K∧x=(i:Int)∧M=K-j-i∧Rq (dg W64) w16 q2 Q∧Rq (dg W64) w16 r6 R∧Nm Q∧Nm R∧hgt Q≤A+(j+i)*(B+1)∧hgt R≤A+(j+i)*(B+1)∧Q.length≤65536∧R.length≤16∧(∀n,(ldz Y)^(j+i)*X.getD n 0=(pm Q Y).getD n 0+R.getD n 0)∧R.length<Y.length) (K-j) ⟨rfl,rfl,x15,hE15,0,Q,R,om,rfl,om,hq,hr,nQ,nR,gQ,gR,lQ,lR,hid,hlt⟩ ?_;rintro M q2 r6 x c4 c5 w16 ⟨rfl,rfl,x16,hE16,i,Q,R,hji,rfl,rfl,hq,hr,nQ,nR,gQ,gR,lQ,lR,hid,hlt⟩;refine ac (λh=>?_) (λh=>?_)
  ·have hst:=hstep (j:=j+i+1) om;have hst0:=hstep hji;rw [Nat.add_mul,Nat.one_mul] at hst;have e16:Ext aa w16 w16.drew:=(Ext.refl _ _).drew;have hE':=hE16.ext e16;refine hE'.downC λv5 V5 k6 n6=>V5.downC λv6 V6 _ _=>hE'.downC λv7 V7 k8 n8=>V7.downC λv8 V8 k9 n9=>?_
   have H:=HcC.cons k9 n9 (.cons k8 n8 (.cons k6 n6 (.nil _)));have hc16:=(hc5.extT hE5.tz x16).ext e16;refine t1 hE'.tz (jZ V6 (hq.ext e16).ri hc16 lQ (λi=>Nat.le_trans (hsz Q _ gQ om i) dcd) hcz h0 h1) ?_;rintro s8 w17 x17 ⟨hs8,V6'⟩;have H17:=H.extT x17;refine aN H17 ?_;have hE17:=hE'.re x17 V6';refine t1 hE17.tz (jZ (V8.re x17 V6') ((hr.ext e16).extT hE'.tz x17).ri (hc16.extT hE'.tz x17) om (λi=>Nat.le_trans (hsz R _ gR om i) dcd) hcz h0 h1) ?_;rintro s9 w18 x18 ⟨hs9,V8'⟩;refine aN (H17.extT x18).tail ?_
   have gS:∀L:List Int,hgt L≤A+(j+i)*(B+1)→hgt (Sc (ldz Y) L)≤A+(j+(i+1))*(B+1):=λL hL=>by
    rw [←Nat.add_assoc,Nat.add_mul (j+i),Nat.one_mul];exact Nat.le_trans (mG hL (bp hB _)) om
   have lS:∀(L:List Int) (n:Nat),L.length≤n→(Sc (ldz Y) L).length≤n:=λL n hL=>Nat.le_trans (sP _ _) hL
   refine ab om om ⟨K-j-(i+1),om,rfl,rfl,(x16.trans e16.any).trans (x17.trans x18),hE17.re x18 V8',i+1,Sc (ldz Y) Q,Sc (ldz Y) R,om,rfl,rfl,hs8.rq.extT hE17.tz x18,hs9.rq,Nm.trim _,Nm.trim _,gS _ gQ,gS _ gR,lS _ _ lQ,lS _ _ lR,λn=>?_,Nat.lt_of_le_of_lt (lS _ _ (Nat.le_refl _)) hlt⟩
   have h1:(pm (Sc (ldz Y) Q) Y).getD n 0=ldz Y*(pm Q Y).getD n 0:=by
    rw [←no];exact fT (λi=>by rw [iB,aZ smp,Int.mul_comm]) (λi=>rfl) n
   have h2:=hid n;rw [h1,iB,←Nat.add_assoc,Int.pow_succ];have h3:ldz Y^(j+i)*ldz Y*X.getD n 0=ldz Y*(ldz Y^(j+i)*X.getD n 0):=by grind
   rw [h3,h2];grind
  ·have hji':j+i=K:=om;rw [hji'] at hid;have hpd:PD K X Y Q R:=⟨hid,λi hi=>gtb om,nQ,nR⟩;have hpz:=vd hX hne;rw [hK] at hpz;obtain⟨e1,e2⟩:=PD.uniq hY hne hpd hpz;refine⟨e1▸hq,?_,x16,hE16⟩;unfold lI;rw [hK];exact e2▸hr
 rintro q r w19 ⟨h3,h4,x19,hE19⟩;exact rt4 (c:=.slice) (d:=.slice) (e:=.int .i64) (f:=.int .i64) q r (K:Int) 0 ((e12.trans e35).any.trans x19) ⟨λh=>absurd h hne,λ_=>⟨rfl,rfl,h3.at,h4.at⟩,hE19.at⟩
theorem yW:oR λxs ys=>Sht xs ys∧min (ae xs).length (ae ys).length≤3:=λhE ha hb hs h0 h1=>Calls.mono (qK hE ha hb hs.1 hs.2 h0 h1) λ_ _ ⟨x,T',h1,h2,h3,h4⟩=>⟨x,T',h1,h2,h3,Of.rq h4.1,h4.2⟩
end
end
section
variable {b n y:Bool} {e:TypeId} {l v:Sl} {K:Sl→TW→Prop}
theorem th{w w':TW}{b:Nat}{vs:List Value}{k:Nat}(hw:New w b vs e w')(h:vs.length=k):Rdv w' k ⟨some ⟨b,0,none⟩,1,1⟩ vs:=by
 refine⟨by show _=1*k;omega,Nat.le_refl _,by show 1≤maxLen;decide,λ_=>⟨b,0,rfl,λhV=>?_,λj v hj=>?_⟩⟩
 ·rw [hw.V] at hV;have:=w.lt _ hV;have:=hw.at_;omega
 ·rw [cell_of_row w'.w b (0+j) _ e (0,0) hw.heap];simpa using hj
theorem ap1{w:TW}{B:Nat}{s x:Sl}{ss:List Sl}(h:Own w B e 1 s (ss.map Sl.v))(hl:Rdv w 1 l [x.v])(hB:B≤w.w.heap.size)(hn:ss.length+1≤1073741824)(hK:∀s' w',Own w' B e 1 s' ((ss++[x]).map Sl.v)→Ext (λc=>s.blk=some c) w w'→(∀b,s'.blk=some b→s.blk=some b∨w.w.heap.size≤b)→K s' w'):apd w e 1 24 s l K:=by
 have h1:s.n=ss.length:=by have:=h.rdv.1;simpa using this.symm
 have h2:l.n=1:=by have:=hl.1;simpa using this.symm
 refine⟨B,ss.map Sl.v,[x.v],h,hl,hB,?_,?_,?_,λs' w' ho _ hx hb=>hK s' w' ?_ hx hb⟩
 ·intro v hv;simp at hv;subst hv;rfl
 ·rw [h2];show s.n+1≤9223372036854775807;omega
 ·rw [h2];show (s.n+1)*24≤_;omega
 ·simpa using ho
theorem ap2{w:TW}{B:Nat}{s x:Sl}{ts:List (Sl × Bool)}(h:Own w B e 2 s (ts.flatMap iv))(hl:Rdv w 2 l [x.v,.bool y])(hB:B≤w.w.heap.size)(hn:ts.length+1≤1099511627776)(hK:∀s' w',Own w' B e 2 s' ((ts++[(x,y)]).flatMap iv)→Ext (λc=>s.blk=some c) w w'→(∀b,s'.blk=some b→s.blk=some b∨w.w.heap.size≤b)→K s' w'):apd w e 2 32 s l K:=by
 have h1:=h.rdv.len2;have h2:l.n=1:=by have:=hl.1;simp at this;omega
 refine⟨B,ts.flatMap iv,[x.v,.bool y],h,hl,hB,?_,?_,?_,λs' w' ho _ hx hb=>hK s' w' ?_ hx hb⟩
 ·intro v hv;simp at hv;rcases hv with rfl|rfl<;>rfl
 ·rw [h2];show s.n+1≤9223372036854775807;omega
 ·rw [h2];show (s.n+1)*32≤_;omega
 ·simpa [iv] using ho
def Ea(w:TW)(X:Nat→Prop)(t:Sl × Bool)(z:Int):Prop:=El (dg W64) w t z∧(dg W64 z.natAbs≠[]→∀c,t.1.blk=some c→¬X c∧c<w.w.heap.size)
def Pf(w:TW)(X:Nat→Prop)(u:Sl)(zs:List Int):Prop:=∃ts:List (Sl × Bool),Rdv w 2 u (ts.flatMap iv)∧ts.length=zs.length∧(∀c,u.blk=some c→zs≠[]→¬X c∧c<w.w.heap.size)∧∀i (h:i<ts.length),Ea w X ts[i] (zs.getD i 0)
section
variable {w w':TW} {X Y Z:Nat→Prop} {u:Sl} {zs:List Int} {x:Sl × Bool} {z:Int}
theorem Ea.extX(h:Ea w X x z)(e:Ext Z w w')(hZ:∀c,Z c→X c)(hY:∀c,Y c→X c∨w.w.heap.size≤c):Ea w' Y x z:=
 ⟨⟨h.1.1.extN e λhn c hc h'=>(h.2 hn c hc).1 (hZ c h'),h.1.2⟩,λhn c hc=>⟨λh'=>(hY c h').elim (h.2 hn c hc).1 λh1=>by have:=(h.2 hn c hc).2;omega,Nat.lt_of_lt_of_le (h.2 hn c hc).2 e.size⟩⟩
theorem Ea.extT{t:Nat}(h:Ea w X x z)(hT:Tz w t)(e:Xt1 t w w'):Ea w' X x z:=⟨⟨h.1.1.extT hT e,h.1.2⟩,λhn c hc=>⟨(h.2 hn c hc).1,Nat.lt_of_lt_of_le (h.2 hn c hc).2 e.size⟩⟩
theorem Ea.of{B:Nat}{s:Sl}(h:Io w B s n z)(hX:∀c,X c→c<B):Ea w X (s,n) z:=⟨h.el,λ_ c hc=>⟨λh'=>by have:=(Ow.from_ h.1 c hc).1;have:=hX c h';omega,(Ow.from_ h.1 c hc).2⟩⟩
theorem Pf.rq(h:Pf w X u zs):Rq (dg W64) w u zs:=by
 obtain⟨ts,h1,h2,_,h4⟩:=h;exact⟨ts,h1,h2,λi hi=>(h4 i hi).1⟩
theorem Pf.of{B:Nat}(h:Of (dg W64) w B T.af u zs)(hX:∀c,X c→c<B):Pf w X u zs:=by
 obtain⟨ts,h1,h2,h3⟩:=h;refine⟨ts,h1.rdv,h2,λc hc _=>⟨λh'=>?_,(h1.from_ c hc).2⟩,λi hi=>⟨(h3 i hi).1,λhn c hc=>⟨λh'=>?_,((h3 i hi).2 hn c hc).2.2⟩⟩⟩
 ·have:=(h1.from_ c hc).1;have:=hX c h';omega
 ·have:=((h3 i hi).2 hn c hc).1;have:=hX c h';omega
theorem Pf.extX(h:Pf w X u zs)(e:Ext Z w w')(hZ:∀c,Z c→X c)(hY:∀c,Y c→X c∨w.w.heap.size≤c):Pf w' Y u zs:=by
 obtain⟨ts,h1,h2,h3,h4⟩:=h;by_cases hz:zs=[]
 ·subst hz;have:ts=[]:=List.length_eq_zero_iff.1 (by rw [h2];rfl);subst this;exact⟨[],⟨h1.1,h1.2.1,h1.2.2.1,λh=>absurd rfl h⟩,rfl,λc _ h=>absurd rfl h,λi hi=>absurd hi smp⟩
 exact⟨ts,h1.ext e λb hb h'=>(h3 b hb hz).1 (hZ b h'),h2,λc hc _=>⟨λh'=>(hY c h').elim (h3 c hc hz).1 λh1=>by have:=(h3 c hc hz).2;omega,Nat.lt_of_lt_of_le (h3 c hc hz).2 e.size⟩,λi hi=>(h4 i hi).extX e hZ hY⟩
theorem Pf.extT{t:Nat}(h:Pf w X u zs)(hT:Tz w t)(e:Xt1 t w w'):Pf w' X u zs:=by
 obtain⟨ts,h1,h2,h3,h4⟩:=h;exact⟨ts,h1.extT (uD ts) hT e,h2,λc hc hz=>⟨(h3 c hc hz).1,Nat.lt_of_lt_of_le (h3 c hc hz).2 e.size⟩,λi hi=>(h4 i hi).extT hT e⟩
end
def Xb(s u:Sl)(c:Nat):Prop:=s.blk=some c∨u.blk=some c
def Td(w:TW)(B:Nat)(s u:Sl)(zss:List (List Int))(ds:List Int):Prop:=
 ∃(ss:List Sl) (ts:List (Sl × Bool)),Own w B T.bO 1 s (ss.map Sl.v)∧Own w B T.af 2 u (ts.flatMap iv)∧ss.length=zss.length∧ts.length=ds.length∧(∀i (h:i<ss.length),Pf w (Xb s u) ss[i] (zss.getD i []))∧∀i (h:i<ts.length),Ea w (Xb s u) ts[i] (ds.getD i 0)
theorem ab4:T.bO≠T.dj:=dcd
section
variable {w w':TW} {B t:Nat} {s u:Sl} {zss:List (List Int)} {ds:List Int}
theorem Td.nil(w:TW)(B:Nat):Td w B Sl.nil Sl.nil [] []:=⟨[],[],Own.nil w B _,Own.nil2 w B _,rfl,rfl,λi hi=>absurd hi smp,λi hi=>absurd hi smp⟩
theorem Td.ext(h:Td w B s u zss ds)(e:Ext aa w w'):Td w' B s u zss ds:=by
 obtain⟨ss,ts,h1,h2,h3,h4,h5,h6⟩:=h;exact⟨ss,ts,h1.ext e λ_ _ h=>h,h2.ext e λ_ _ h=>h,h3,h4,λi hi=>(h5 i hi).extX e (λ_ h=>h.elim) λc hc=>.inl hc,λi hi=>(h6 i hi).extX e (λ_ h=>h.elim) λc hc=>.inl hc⟩
theorem Td.extT(h:Td w B s u zss ds)(hT:Tz w t)(e:Xt1 t w w'):Td w' B s u zss ds:=by
 obtain⟨ss,ts,h1,h2,h3,h4,h5,h6⟩:=h;exact⟨ss,ts,h1.extT hT ab4 e,h2.extT hT jd e,h3,h4,λi hi=>(h5 i hi).extT hT e,λi hi=>(h6 i hi).extT hT e⟩
theorem Td.lt_blk(h:Td w B s u zss ds):∀c,Xb s u c→B≤c∧c<w.w.heap.size:=by
 obtain⟨ss,ts,h1,h2,_⟩:=h;rintro c (hc|hc)
 ·exact h1.from_ c hc
 ·exact h2.from_ c hc
theorem Td.rz(h:Td w B s u zss ds):Rz w s zss:=by
 obtain⟨ss,ts,h1,h2,h3,h4,h5,h6⟩:=h;exact⟨ss,by rw [qq];exact h1.rdv,h3,λi hi=>(h5 i hi).rq.ri⟩
theorem Td.oq(h:Td w B s u zss ds):Oq (dg W64) w B T.af u ds:=by
 obtain⟨ss,ts,h1,h2,h3,h4,h5,h6⟩:=h;exact⟨ts,h2,h4,λi hi=>⟨(h6 i hi).1,λhn c hc=>⟨λh'=>((h6 i hi).2 hn c hc).1 (.inr h'),((h6 i hi).2 hn c hc).2⟩⟩⟩
theorem tH{α:Type}(l:List α)(x d:α)(i:Nat):(l++[x]).getD i d=if i=l.length then x else l.getD i d:=by
 simp only [List.getD_eq_getElem?_getD];rcases Nat.lt_trichotomy i l.length with h|h|h
 ·rw [List.getElem?_append_left h,if_neg om]
 ·subst h;simp
 ·rw [if_neg om,List.getElem?_eq_none (by simp;omega),List.getElem?_eq_none om]
theorem Td.push1(he:e=T.bO){zs:List Int}(h:Td w B s u zss ds)(hl:Rdv w 1 l [v.v])(hB:B≤w.w.heap.size)(hn:zss.length+1≤1073741824)(hv:Pf w (Xb s u) v zs)(hK:∀s' w',Td w' B s' u (zss++[zs]) ds→Ext (λc=>s.blk=some c) w w'→(∀b,s'.blk=some b→s.blk=some b∨w.w.heap.size≤b)→K s' w'):apd w e 1 24 s l K:=by
 subst he;obtain⟨ss,ts,h1,h2,h3,h4,h5,h6⟩:=h;refine ap1 h1 hl hB om λs' w' h' x' hb'=>hK s' w' ?_ x' hb'
 have hZ:∀c,s.blk=some c→Xb s u c:=λc hc=>.inl hc
 have hY:∀c,Xb s' u c→Xb s u c∨w.w.heap.size≤c:=λc hc=>hc.elim (λh=>(hb' c h).imp .inl id) λh=>.inl (.inr h)
 refine⟨ss++[v],ts,h',h2.ext x' λc hc h9=>h1.neTy h2 dcd h9 hc,by simp [h3],h4,λi hi=>?_,λi hi=>(h6 i hi).extX x' hZ hY⟩;simp only [List.length_append,List.length_singleton] at hi;rw [tH];rcases Nat.lt_or_ge i ss.length with hlt|hge
 ·rw [List.getElem_append_left hlt,if_neg om];exact (h5 i hlt).extX x' hZ hY
 ·have:i=ss.length:=om;subst this;rw [List.getElem_append_right (Nat.le_refl _),if_pos h3];simp only [Nat.sub_self,List.getElem_singleton];exact hv.extX x' hZ hY
theorem Td.push2(he:e=T.af){z:Int}(h:Td w B s u zss ds)(hl:Rdv w 2 l [v.v,.bool b])(hB:B≤w.w.heap.size)(hn:ds.length+1≤1099511627776)(hv:Ea w (Xb s u) (v,b) z)(hK:∀u' w',Td w' B s u' zss (ds++[z])→Ext (λc=>u.blk=some c) w w'→(∀b,u'.blk=some b→u.blk=some b∨w.w.heap.size≤b)→K u' w'):apd w e 2 32 u l K:=by
 subst he;obtain⟨ss,ts,h1,h2,h3,h4,h5,h6⟩:=h;refine ap2 h2 hl hB om λu' w' h' x' hb'=>hK u' w' ?_ x' hb'
 have hZ:∀c,u.blk=some c→Xb s u c:=λc hc=>.inr hc
 have hY:∀c,Xb s u' c→Xb s u c∨w.w.heap.size≤c:=λc hc=>hc.elim (λh=>.inl (.inl h)) λh=>(hb' c h).imp .inr id
 refine⟨ss,ts++[(v,b)],h1.ext x' λc hc h9=>h1.neTy h2 dcd hc h9,h',h3,by simp [h4],λi hi=>(h5 i hi).extX x' hZ hY,λi hi=>?_⟩;simp only [List.length_append,List.length_singleton] at hi;rw [tH];rcases Nat.lt_or_ge i ts.length with hlt|hge
 ·rw [List.getElem_append_left hlt,if_neg om];exact (h6 i hlt).extX x' hZ hY
 ·have:i=ts.length:=om;subst this;rw [List.getElem_append_right (Nat.le_refl _),if_pos h4];simp only [Nat.sub_self,List.getElem_singleton];exact hv.extX x' hZ hY
theorem Td.push{v2:Sl}{z:Int}{zs:List Int}(h:Td w B s u zss ds)(hB:B≤w.w.heap.size)(hn:zss.length+1≤1073741824)(hn2:ds.length+1≤1099511627776)(hv:Pf w (Xb s u) v zs)(hv2:Ea w (Xb s u) (v2,b) z){K:Sl→Sl→TW→Prop}(hK:∀s' u' w',Td w' B s' u' (zss++[zs]) (ds++[z])→Ext (Xb s u) w w'→(∀c,Xb s' u' c→Xb s u c∨w.w.heap.size≤c)→K s' u' w'):
  ((nwb w [v.v] T.bO λb2 w23=>(apd w23 T.bO 1 24 s ⟨(some ⟨b2,0,none⟩),1,1⟩ λs2 w24=>nwb w24 [v2.v,.bool b] T.af λb3 w25=>apd w25 T.af 2 32 u ⟨(some ⟨b3,0,none⟩),1,1⟩ λs3 w26=>K s2 s3 w26)∧
   (nwb w23 [v2.v,.bool b] T.af λb4 w27=>apd w27 T.bO 1 24 s ⟨(some ⟨b2,0,none⟩),1,1⟩ λs4 w28=>apd w28 T.af 2 32 u ⟨(some ⟨b4,0,none⟩),1,1⟩ λs5 w29=>K s4 s5 w29))∧
  (nwb w [v2.v,.bool b] T.af λb5 w30=>nwb w30 [v.v] T.bO λb6 w31=>apd w31 T.bO 1 24 s ⟨(some ⟨b6,0,none⟩),1,1⟩ λs6 w32=>apd w32 T.af 2 32 u ⟨(some ⟨b5,0,none⟩),1,1⟩ λs7 w33=>K s6 s7 w33)):=by
 have none:∀{n:Nat} c,c<n→aa c→Xb s u c:=λc _ h=>h.elim
 have key:∀{w1:TW} {l1:Sl},Ext aa w w1→Rdv w1 1 l1 [v.v]→∀{KK:Sl→TW→Prop},(∀s' w2,Td w2 B s' u (zss++[zs]) ds→Ext (Xb s u) w w2→Ext (λc=>s.blk=some c) w1 w2→Ea w2 (Xb s' u) (v2,b) z→B≤w2.w.heap.size→(∀c,s'.blk=some c→s.blk=some c∨w.w.heap.size≤c)→KK s' w2)→apd w1 T.bO 1 24 s l1 KK:=by
  intro w1 l1 e1 hl KK hKK;refine (h.ext e1).push1 rfl hl (Nat.le_trans hB e1.size) hn (hv.extX e1 (λ_ h=>h.elim) λc hc=>.inl hc) λs' w2 h2 x2 hb=>hKK s' w2 h2 ((e1.mono none).trans (x2.mono λc _ hc=>.inl hc)) x2 ?_ (Nat.le_trans hB (Nat.le_trans e1.size x2.size)) λc hc=>(hb c hc).imp id λh=>Nat.le_trans e1.size h
  exact (hv2.extX (Y:=Xb s u) e1 (λ_ h=>h.elim) λc hc=>.inl hc).extX x2 (λc hc=>.inl hc) λc hc=>hc.elim (λh=>(hb c h).imp .inl id) λh=>.inl (.inr h)
 have fin:∀{s' l2:Sl} {w2:TW},Td w2 B s' u (zss++[zs]) ds→Ext (Xb s u) w w2→Ea w2 (Xb s' u) (v2,b) z→B≤w2.w.heap.size→(∀c,s'.blk=some c→s.blk=some c∨w.w.heap.size≤c)→Rdv w2 2 l2 [v2.v,.bool b]→apd w2 T.af 2 32 u l2 λs3 w26=>K s' s3 w26:=by
  intro s' l2 w2 h2 x2 he hB2 hs hl;exact h2.push2 rfl hl hB2 hn2 he λu' w3 h3 x3 hu=>hK s' u' w3 h3 (x2.trans (x3.mono λc _ hc=>.inr hc)) λc hc=>hc.elim (λh=>(hs c h).imp .inl id) λh=>(hu c h).imp .inr λh=>Nat.le_trans x2.size h
 have hlt:=h.lt_blk;refine⟨λb2 w23 n23=>⟨?_,?_⟩,λb5 w30 n30 b6 w31 n31=>?_⟩
 ·refine key (n23.ext _) (th n23 rfl) λs2 w24 h24 x24 _ he hB24 hs b3 w25 n25=>?_
  have e25:Ext aa w24 w25:=n25.ext _;exact fin (h24.ext e25) (x24.trans (e25.mono none)) (he.extX e25 (λ_ h=>h.elim) λc hc=>.inl hc) (Nat.le_trans hB24 e25.size) hs (th n25 rfl)
 ·intro b4 w27 n27;have e23:Ext aa w w23:=n23.ext _;have e27:Ext aa w23 w27:=n27.ext _;refine key (e23.trans e27) ((th n23 rfl).extN e27) λs4 w28 h28 x28 y28 he hB28 hs=>?_
  refine fin h28 x28 he hB28 hs ((th n27 rfl).ext y28 λc hc h'=>?_);have h1:b4=c:=by simpa [Sl.blk] using hc
  have h2:=n27.at_;have h3:=(hlt c (.inl h')).2;have h4:=e23.size;omega
 ·have e30:Ext aa w w30:=n30.ext _;have e31:Ext aa w30 w31:=n31.ext _;refine key (e30.trans e31) (th n31 rfl) λs6 w32 h32 x32 y32 he hB32 hs=>?_
  refine fin h32 x32 he hB32 hs (((th n30 rfl).extN e31).ext y32 λc hc h'=>?_);have h1:b5=c:=by simpa [Sl.blk] using hc
  have h2:=n30.at_;have h3:=(hlt c (.inl h')).2;omega
end
theorem adh{w:TW}{B:Nat}{x:Sl}{z:Int}(hx:Io w B x y z)(hB:B≤w.w.heap.size){K:Nat→TW→Prop}(hK:∀b w',Of (dg W64) w' B T.af ⟨some ⟨b,0,none⟩,1,1⟩ [z]→Ext aa w w'→K b w'):nwb w [x.v,.bool y] T.af K:=by
 intro b w' hw;have e:Ext aa w w':=hw.ext _;refine hK b w' ⟨[(x,y)],?_,rfl,λi hi=>?_⟩ e
 ·refine⟨⟨rfl,.inr ⟨b,1,[x.v,.bool y].toArray,rfl,by have:=hw.at_;omega,hw.heap,Nat.le_refl _,by simp only [maxLen];omega,smp,?_⟩⟩,λc hc hV=>?_⟩
  ·rw [List.take_of_length_le smp];rfl
  ·simp [Sl.blk] at hc;rw [hw.V] at hV;have:=w.lt _ hV;have:=hw.at_;omega
 ·have:i=0:=by simp at hi;omega
  subst this;have hx':=hx.ext e;refine⟨hx'.el,λ_ c hc=>?_⟩;have h1:=Ow.from_ hx.1 c hc;have h2:=hw.at_;refine⟨h1.1,λh'=>?_,Nat.lt_of_lt_of_le h1.2 e.size⟩;have:b=c:=by simpa [Sl.blk] using h'
  omega
theorem sc{w:TW}{s u:Sl}{m:Bool}{x y:Int}(hs:Iz w s m x)(hu:Iz w u n y){K:Nat→TW→Prop}(hK:∀b w',Ri w' ⟨some ⟨b,0,none⟩,2,2⟩ [x,y]→Ext aa w w'→K b w'):nwb w [s.v,.bool m,u.v,.bool n] e K:=
 aey (ts:=[(s,m),(u,n)]) (n:=2) rfl dcd λb w' h' e'=>hK b w' ⟨_,h',rfl,λi hi=>by
  match i,hi with
  | 0,_=>exact hs.ext e'
  | 1,_=>exact hu.ext e'⟩ e'
end
section
variable {xs:List Int} {i n x y:Nat}
def Dst(xs:List Int):Prop:=∀i k,k<i→i<xs.length→xg xs i≠xg xs k
theorem Dst.ne(h:Dst xs){k:Nat}(hi:i<xs.length)(hk:k<xs.length)(hne:k≠i):xg xs i≠xg xs k:=by
 rcases Nat.lt_trichotomy i k with h1|h1|h1
 ·exact (h k i h1 hk).symm
 ·omega
 ·exact h i k h1 hi
def tpl(xs:List Int)(i:Nat):List (List Int):=(List.range i).map λq=>it xs q xs.length
def dnl(xs:List Int)(i:Nat):List Int:=(List.range i).map λq=>dnz xs q xs.length
theorem aaB(xs:List Int)(i:Nat):tpl xs (i+1)=tpl xs i++[it xs i xs.length]:=by simp [tpl,List.range_succ]
theorem abq(xs:List Int)(i:Nat):dnl xs (i+1)=dnl xs i++[dnz xs i xs.length]:=by simp [dnl,List.range_succ]
theorem wR(xs:List Int)(i:Nat):(tpl xs i).length=i:=by simp [tpl]
theorem xw(xs:List Int)(i:Nat):(dnl xs i).length=i:=by simp [dnl]
theorem ab6(h:i<n):(tpl xs n).getD i []=it xs i xs.length:=by simp [tpl,h]
theorem acF(h:i<n):(dnl xs n).getD i 0=dnz xs i xs.length:=by simp [dnl,h]
theorem zV{xs:List Int}{c:Nat→Int}{n j H:Nat}:∀{m:Nat},(∀q,q<m→bl ((it xs q n).getD j 0*c q).natAbs≤H)→bl (ips xs c n j m).natAbs≤H+m
 | 0,_=>by simp [ips,dX]
 | m+1,h=>by
  have ih:=zV (j:=j) (m:=m) λq hq=>h q om
  have h2:=qH ih (Nat.le_trans (h m om) (Nat.le_add_right H m));exact h2
theorem adL{m:Nat}(hx:bl x≤m)(hy:bl y≤n):bl (Nat.lcm x y)≤m+n:=by
 have h:=lh (x:=(x:Int)) (y:=(y:Int)) (m:=m) (n:=n) (by simpa using hx) (by simpa using hy);rw [Int.natAbs_mul,Int.natAbs_natCast,Int.natAbs_natCast] at h;refine aY (Nat.lt_of_le_of_lt ?_ (fM h));exact Nat.div_le_self _ _
theorem eV{K:Nat}(h:bl x≤K):sz x≤K/64+1:=iq (fM h)
section
variable {w:TW} {p:Option Addr} {zd zm pz mo hg g po nu ra ro dv rc c m d k e t:Nat} {now:Int} {tab:List Int}
theorem acu(hx:sz x≤n)(hxy:sz (Nat.lcm x y)≤n)(hn:1≤n):∀j,sz (([x,y].take j).foldl Nat.lcm 1)≤n
 | 0=>Nat.le_trans (cQ (k:=1) (x:=1) dcd) hn
 | 1=>by simpa using hx
 | j+2=>by simpa using hxy
set_option maxHeartbeats 2000000 in
theorem qJ{QQ:Nat→Nat→Prop}{ZZ DD TT LB YY LY NN:Nat}(hLc:ab0 ZZ)(hEx:ng QQ)(hQ:∀x y,sz x≤ZZ→sz y≤ZZ→QQ x y)(hZZ:1≤ZZ∧ZZ≤256){x y:Sl}{ys:List Int}(hE:Eg w p [zd,zm,pz,mo,hg,g,po,nu,ra,ro,dv,rc,c,m,d,k,e] t now tab)(hx:Ri w x xs)(hy:Ri w y ys)(hl:xs.length≤7)(hl2:ys.length≤7)(hbx:∀k,bl (xg xs k).natAbs≤64)(hby:∀k,bl (ys.getD k 0).natAbs≤YY)(hdb:∀i k,k≤xs.length→bl (dnz xs i k).natAbs≤DD)(hgt2:∀i k,k≤xs.length→hgt (it xs i k)≤TT)(hLB:∀i,i≤xs.length→1+DD*i≤LB)(hLY:LB+YY≤LY)(hNN:TT+LY+7≤NN)(hN:NN/64+1≤ZZ)(h0:0≤now)(h1:now≤1000000000000000000):
  Ct Pg F.bC [.pointer p,x.v,y.v] w (λk=>k=t) [.one .slice,.one (.int .i64)] λ(s:Sl)(er:Int) w'=>(xs.length≠ys.length→er=1∧s=Sl.nil)∧(xs.length=ys.length→¬Dst xs→er=6∧s=Sl.nil)∧
   (xs.length=ys.length→Dst xs→∃(L:Int) (cc:Nat→Int),L≠0∧(∀i,i<xs.length→cc i*dnz xs i xs.length=L*ys.getD i 0)∧((∀j,L ∣ ips xs cc xs.length j xs.length)→er=0∧∃r,Rq (dg W64) w' s r∧Nm r∧∀j,r.getD j 0=ips xs cc xs.length j xs.length/L)∧((¬∀j,L ∣ ips xs cc xs.length j xs.length)→er=7∧s=Sl.nil))∧Eg w' p [zd,zm,pz,mo,hg,g,po,nu,ra,ro,dv,rc,c,m,d,k,e] t now tab:=by
 refine Ct.bC ?_;unfold Sh.bC;have nx:=hx.len;have ny:=hy.len;rw [nx,ny];by_cases hlen:¬xs.length=ys.length
 ·refine aQ (by simp;omega) ?_;exact rt2 (c:=.slice) (d:=.int .i64) Sl.nil 1 (Ext.refl _ _) ⟨λ_=>⟨rfl,rfl⟩,λh=>absurd h hlen,λh=>absurd h hlen,hE.here.at⟩
 rw [Decidable.not_not] at hlen;refine ap (by simp;omega) ?_;have hE0:=hE.here;have hszx:∀k,sz (xs.getD k 0).natAbs≤2:=λk=>Nat.le_trans (eV (hbx k)) dcd
 refine j0 (λw5=>Dst xs∧Ext aa w.here w5) ?_ ?_
 ·refine lp1 (λM (x1:Int) w1=>∃i:Nat,x1=i∧M=xs.length-i∧i≤xs.length∧(∀q k,k<q→q<i→xg xs q≠xg xs k)∧Ext aa w.here w1) xs.length ⟨0,rfl,om,om,λq k _ h=>(by omega),Ext.refl _ _⟩ ?_;rintro M x1 w1 ⟨i,rfl,rfl,hi,hd,e1⟩;refine ac (λh=>?_) (λh=>?_)
  ·refine j0 (λw4=>(∀k,k<i→xg xs i≠xg xs k)∧Ext aa w.here w4) ?_ ?_
   ·refine lp1 (λM (x2:Int) w2=>∃k:Nat,x2=k∧M=i-k∧k≤i∧(∀q,q<k→xg xs i≠xg xs q)∧Ext aa w.here w2) i ⟨0,rfl,om,om,λq h=>(by omega),e1⟩ ?_;rintro M x2 w2 ⟨k,rfl,rfl,hk,hd2,e2⟩;refine ac (λh2=>?_) (λh2=>?_)
    ·have ed:=e2.drew;have hx2:=hx.here.ext ed;refine hx2.ix (j:=i) rfl om λa1 tt1 hz1 _ q0 q1=>ldp q0 q1 ?_
     refine hx2.ix (j:=k) rfl om λa2 tt2 hz2 _ r0 r1=>ldp r0 r1 ?_
     refine c1 (num_Cmp hz1 hz2) ?_;rintro r w3 e3 rfl;have e23:=ed.trans e3;have hgi:xg xs i=xs.getD i 0:=rfl;have hgk:xg xs k=xs.getD k 0:=rfl;by_cases heq:xs.getD i 0=xs.getD k 0
     ·refine aQ (by rw [if_neg om,if_pos heq];rfl) ?_;exact rt2 (c:=.slice) (d:=.int .i64) Sl.nil 6 (e23.mono λ_ _ h=>h.elim) ⟨λh=>absurd hlen h,λ_ _=>⟨rfl,rfl⟩,λ_ hD=>absurd (hgi.trans (heq.trans hgk.symm)) (hD i k om om),(hE0.ext e23).at⟩
     ·refine ap (by split<;>simp [heq]) ?_;refine ab om om ⟨i-(k+1),om,k+1,om,rfl,om,λq hq=>?_,e23⟩;by_cases h9:q=k
      ·rw [h9];exact heq
      ·exact hd2 q om
    ·exact⟨λq hq=>hd2 q om,e2⟩
   rintro w4 ⟨hd4,e4⟩;refine ab om om ⟨xs.length-(i+1),om,i+1,om,rfl,om,λq k hk hq=>?_,e4⟩;by_cases h9:q=i
   ·subst h9;exact hd4 k hk
   ·exact hd q k hk om
  ·exact⟨λq k hk hq=>hd q k hk om,e1⟩
 rintro w5 ⟨hD,e5⟩;refine c1 (limb_One (y:=1) dcd) λs w6 e6 hs1=>?_
 have e56:=e5.trans e6;have hE6:=hE0.ext e56;have hx6:=hx.here.ext e56;have hy6:=hy.here.ext e56;have hdn:∀i,i<xs.length→dnz xs i xs.length≠0:=λi hi=>aak λk hk hne=>hD.ne hi hk hne
 have hDs:DD/64+1≤ZZ∨xs.length=0:=by
  rcases Nat.eq_zero_or_pos xs.length with h|h
  ·exact .inr h
  ·have:=hLB 1 h;exact .inl om
 have hLs:LB/64+1≤ZZ:=om;have hYs:LY/64+1≤ZZ:=om;have htl:∀i k,k≤xs.length→(it xs i k).length≤8∧hgt (it xs i k)≤TT:=λi k hk=>⟨Nat.le_trans (sS hbx k).1 om,hgt2 i k hk⟩
 refine j3 (λ(tops:Sl)(downs:Sl)(below:Sl) w37=>∃L:Nat,Td w37 w6.w.heap.size tops downs (tpl xs xs.length) (dnl xs xs.length)∧Nt w37 below L∧0<L∧bl L≤1+DD*xs.length∧(∀q,q<xs.length→(dnz xs q xs.length).natAbs ∣ L)∧Xt1 t w6 w37∧Eg w37 p [zd,zm,pz,mo,hg,g,po,nu,ra,ro,dv,rc,c,m,d,k,e] t now tab) ?_ ?_
 ·refine lp4 (λM (tops:Sl) (downs:Sl) (below:Sl) (x3:Int) w7=>∃i L:Nat,x3=i∧M=xs.length-i∧i≤xs.length∧Td w7 w6.w.heap.size tops downs (tpl xs i) (dnl xs i)∧Ea w7 (Xb tops downs) (below,false) (L:Int)∧0<L∧bl L≤1+DD*i∧(∀q,q<i→(dnz xs q xs.length).natAbs ∣ L)∧Xt1 t w6 w7∧Eg w7 p [zd,zm,pz,mo,hg,g,po,nu,ra,ro,dv,rc,c,m,d,k,e] t now tab) xs.length ⟨0,1,rfl,om,om,Td.nil _ _,⟨(show Io w6 w5.w.heap.size s false ((1:Nat):Int) from ⟨hs1,smp⟩).el,λ_ c hc=>⟨λh'=>by rcases h' with h'|h'<;>simp [Sl.blk] at h',(Ow.from_ hs1 c hc).2⟩⟩,dcd,aY (by rw [Nat.mul_zero];decide),λq h=>(by omega),Ext.refl _ _,hE6⟩ ?_;rintro M tops downs below x3 w7 ⟨i,L,rfl,rfl,hi,hTd,hbe,hL0,hLb,hLd,x7,hE7⟩;refine ac (λh=>?_) (λh=>?_)
  ·have hi':i<xs.length:=om;refine cl0 (num_Of (n:=1) dcd dcd) ?_;intro r1 r2 w8 e8 hr;have hr:Io w8 w7.w.heap.size r1 r2 1:=hr;refine adh hr e8.size λb w9 h9 e9=>?_
   refine cl0 (num_Of (n:=1) dcd dcd) ?_;intro r3 r4 w10 e10 hr3;have hr3:Io w10 w9.w.heap.size r3 r4 1:=hr3;intro w11 e11 w12 e12;have e812:=((e8.trans e9).trans e10).trans (e11.trans e12);have e79:Ext aa w7 w9:=e8.trans e9;refine j3 (λ(top:Sl)(down:Sl)(dn:Bool) w22=>Of (dg W64) w22 w7.w.heap.size T.af top (it xs i xs.length)∧Io w22 w7.w.heap.size down dn (dnz xs i xs.length)∧Xt1 t w7 w22∧Eg w22 p [zd,zm,pz,mo,hg,g,po,nu,ra,ro,dv,rc,c,m,d,k,e] t now tab) ?_ ?_
   ·refine lp4 (λM (top:Sl) (x4:Int) (down:Sl) (dn:Bool) w13=>∃k':Nat,x4=k'∧M=xs.length-k'∧k'≤xs.length∧Of (dg W64) w13 w7.w.heap.size T.af top (it xs i k')∧Io w13 w7.w.heap.size down dn (dnz xs i k')∧Xt1 t w7 w13∧Eg w13 p [zd,zm,pz,mo,hg,g,po,nu,ra,ro,dv,rc,c,m,d,k,e] t now tab) xs.length ⟨0,rfl,om,om,h9.ext (e10.trans (e11.trans e12)),(hr3.ext (e11.trans e12)).less e79.size,e812.any,hE7.ext e812⟩ ?_;rintro M top x4 down dn w13 ⟨k',rfl,rfl,hk,hTop,hDn,x13,hE13⟩;refine ac (λh2=>?_) (λh2=>?_)
    ·have hk':k'<xs.length:=om;obtain⟨lt1,gt1⟩:=htl i k' hk;refine j3 (λ(top:Sl)(down:Sl)(dn:Bool) w21=>Of (dg W64) w21 w7.w.heap.size T.af top (it xs i (k'+1))∧Io w21 w7.w.heap.size down dn (dnz xs i (k'+1))∧Xt1 t w7 w21∧Eg w21 p [zd,zm,pz,mo,hg,g,po,nu,ra,ro,dv,rc,c,m,d,k,e] t now tab) ?_ ?_
     ·by_cases hki:k'=i
      ·refine ap (by simp;omega) ?_;exact⟨by rw [it,if_pos hki];exact hTop,by rw [dnz,if_pos hki];exact hDn,x13,hE13⟩
      ·refine aQ (by simp;omega) ?_;have ed:Ext aa w13 w13.drew:=(Ext.refl _ _).drew;have hEd:=hE13.ext ed;have xd:Xt1 t w6 w13.drew:=(x7.trans x13).trans ed.any;have hxd:=hx6.extT hE6.tz xd;refine hEd.downC λv4 E4 k4 n4=>?_
       have H4:HcC w13.drew t [(_,.pointer v4)]:=.cons k4 n4 (.nil _);refine hxd.ix (j:=k') rfl hk' λa1 tt1 hz1 _ q0 q1=>ldp q0 q1 ?_
       refine cl0 (num_Neg hz1 (Nat.le_trans (hszx k') dcd)) ?_;intro r5 r6 w14 e14 hr5;have hr5:Io w14 w13.drew.w.heap.size r5 r6 (-(xs.getD k' 0)):=hr5;refine aN (H4.ext e14) ?_;refine cl0 (num_Of (n:=1) dcd dcd) ?_;intro r7 r8 w15 e15 hr7;have hr7:Io w15 w14.w.heap.size r7 r8 1:=hr7;refine aN (H4.ext (e14.trans e15)) ?_;refine sc (hr5.iz.ext e15) hr7.iz λb1 w16 h16 e16=>?_
       have e1316:=(e14.trans e15).trans e16;refine aN (H4.ext e1316) ?_;have hE16:=hEd.ext e1316;have z16:=ed.trans e1316
       have gl2:hgt [-(xs.getD k' 0),1]≤65:=dW λj=>by
        match j with
        | 0=>simp only [List.getD_cons_zero,Int.natAbs_neg];exact Nat.le_trans (hbx k') dcd
        | 1=>exact Nat.le_trans (aY (k:=1) smp) dcd
        | j+2=>simp [dX]
       refine t1 hE16.tz (qK (b:=⟨some ⟨b1,0,none⟩,2,2⟩) (E4.ext e1316) (hTop.ext z16).rq.ri h16 ⟨om,smp,om⟩ (Nat.le_trans (Nat.min_le_right _ _) (Nat.le_trans (ao _) smp)) h0 h1) ?_;rintro s1 w17 x17 ⟨h17,E17⟩;have h17:Of (dg W64) w17 w16.w.heap.size T.af s1 (pmt (it xs i k') [-(xg xs k'),1]):=h17;have hE17:=hE16.re x17 E17;have ed17:Ext aa w17 w17.drew:=(Ext.refl _ _).drew;have x1317:Xt1 t w13 w17.drew:=(z16.any.trans x17).trans ed17.any;have hx17:=hx6.extT hE6.tz ((x7.trans x13).trans x1317);refine hx17.ix (j:=i) rfl hi' λa2 tt2 hz2 _ r0 r1=>ldp r0 r1 ?_
       refine hx17.ix (j:=k') rfl hk' λa3 tt3 hz3 _ s0 s1=>ldp s0 s1 ?_
       refine cl0 (num_Sub hz2 hz3 (Nat.le_trans (hszx i) dcd) (Nat.le_trans (hszx k') dcd)) ?_;intro r9 r10 w18 e18 hr9;have hr9:Io w18 w17.drew.w.heap.size r9 r10 (xg xs i-xg xs k'):=hr9;have e1718:=ed17.trans e18;have hE18:=hE17.ext e1718;have x1318:Xt1 t w13 w18:=x1317.trans e18.any;have bsub:bl (xg xs i-xg xs k').natAbs≤65:=qF (hbx i) (hbx k');refine tM hE18.tz (pJ hE18 (hDn.extT hE13.tz x1318).iz hr9.iz (Nat.le_trans (eV (hdb i k' hk)) om) (Nat.le_trans (eV bsub) dcd) h0 h1) ?_;rintro r11 r12 w19 x19 ⟨hr11,hE19⟩;intro w20 e20;have x1720:Xt1 t w17 w20:=(e1718.any.trans x19).trans e20.any;refine⟨?_,?_,x13.trans (x1318.trans (x19.trans e20.any)),hE19.ext e20⟩
       ·rw [it,if_neg hki];exact (h17.extT hE17.tz jd x1720).less (Nat.le_trans x13.size z16.size)
       ·rw [dnz,if_neg hki];exact (hr11.ext e20).less (Nat.le_trans x13.size x1318.size)
     rintro top1 down2 down3 w21 ⟨hT,hDn2,x21,hE21⟩;exact ab om om ⟨xs.length-(k'+1),om,k'+1,om,rfl,om,hT,hDn2,x21,hE21⟩
    ·have hke:k'=xs.length:=om;subst hke;exact⟨hTop,hDn,x13,hE13⟩
   rintro top2 down4 down5 w22 ⟨hT22,hD22,x22,hE22⟩;have ed22:Ext aa w22 w22.drew:=(Ext.refl _ _).drew;have hE22:=hE22.ext ed22;have x22:=x22.trans ed22.any;have hT22:=hT22.ext ed22;have hD22:=hD22.ext ed22;have hTd22:=hTd.extT hE7.tz x22;have hbe22:=hbe.extT hE7.tz x22;have hX7:∀c,Xb tops downs c→c<w7.w.heap.size:=λc hc=>(hTd.lt_blk c hc).2
   have hdv:Ea w22.drew (Xb tops downs) (down4,down5) (dnz xs i xs.length):=Ea.of hD22 hX7;have x622:Xt1 t w6 w22.drew:=x7.trans x22;refine j3 (λ(tops1:Sl)(downs1:Sl)(down6:Sl) w34=>down6=down4∧Td w34 w6.w.heap.size tops1 downs1 (tpl xs (i+1)) (dnl xs (i+1))∧Nt w34 below L∧Nt w34 down6 (dnz xs i xs.length).natAbs∧Xt1 t w6 w34∧Eg w34 p [zd,zm,pz,mo,hg,g,po,nu,ra,ro,dv,rc,c,m,d,k,e] t now tab) ?_ ?_
   ·refine Td.push hTd22 x622.size (by rw [wR];omega) (by rw [xw];omega) (Pf.of hT22 hX7) hdv λs' u' w' h' x' hXb=>?_
    have hX:∀c,Xb tops downs c→w6.w.heap.size≤c:=λc hc=>(hTd.lt_blk c hc).1
    refine⟨rfl,by rw [aaB,abq];exact h',?_,?_,Ext.mineT x622 x' λc hc=>.inr (hX c hc),hE22.young hE6 x' hX⟩
    ·have:=(hbe22.extX (Y:=Xb s' u') x' (λc hc=>hc) hXb).1.iz.abs;rwa [Int.natAbs_natCast] at this
    ·exact (hdv.extX (Y:=Xb s' u') x' (λc hc=>hc) hXb).1.iz.abs
   rintro tops1 downs1 down6 w34 ⟨rfl,hTd34,hbe34,hdn34,x34,hE34⟩;have ed34:Ext aa w34 w34.drew:=(Ext.refl _ _).drew;have hE34:=hE34.ext ed34;refine hE34.down5 λ_ _ _ _ _ _ _ _ _ _ E5 H5=>?_
   refine nw2 (hbe34.ext ed34) (hdn34.ext ed34) λb7 w35 h35 e35=>?_
   refine aN (H5.ext e35) ?_;have hE35:=hE34.ext e35;have hdbi:=hdb i xs.length (Nat.le_refl _);have sL:sz L≤ZZ:=Nat.le_trans (eV (Nat.le_trans hLb (hLB i om))) hLs;have sD:sz (dnz xs i xs.length).natAbs≤ZZ:=Nat.le_trans (eV hdbi) om;have bLD:bl (Nat.lcm L (dnz xs i xs.length).natAbs)≤1+DD*(i+1):=by rw [Nat.mul_succ];exact Nat.le_trans (adL hLb hdbi) om
   have sLD:sz (Nat.lcm L (dnz xs i xs.length).natAbs)≤ZZ:=Nat.le_trans (eV (Nat.le_trans bLD (hLB (i+1) om))) hLs;refine t1 hE35.tz (hLc (l:=⟨some ⟨b7,0,none⟩,2,2⟩) (E5.ext e35) h35 (λi _=>ym sL sD i) (λj _=>acu sL sLD hZZ.1 j) smp h0 h1) ?_;rintro s8 w36 x36 ⟨h36,E36⟩;refine aN ((H5.ext e35).extT x36).tail ?_;have h36:Io w36 w35.w.heap.size s8 false ((Nat.lcm L (dnz xs i xs.length).natAbs:Nat):Int):=⟨by simpa [ti] using h36,smp⟩;have hdpos:0<(dnz xs i xs.length).natAbs:=by have:=hdn i hi';omega
   have x3436:Xt1 t w34.drew w36:=e35.any.trans x36;have hTd36:=(hTd34.ext ed34).extT hE34.tz x3436;refine ab om om ⟨xs.length-(i+1),om,i+1,Nat.lcm L (dnz xs i xs.length).natAbs,om,rfl,om,hTd36,Ea.of h36 λc hc=>Nat.lt_of_lt_of_le (hTd34.lt_blk c hc).2 (ed34.trans e35).size,Nat.lcm_pos hL0 hdpos,bLD,λq hq=>?_,(x34.trans ed34.any).trans x3436,hE35.re x36 E36⟩;by_cases h9:q=i
   ·rw [h9];exact Nat.dvd_lcm_right _ _
   ·exact Nat.dvd_trans (hLd q om) (Nat.dvd_lcm_left _ _)
  ·have hie:i=xs.length:=om;subst hie;exact⟨L,hTd,hbe.1.iz.abs,hL0,hLb,hLd,x7,hE7⟩
 rintro tops downs below w37 ⟨L,hTd,hbe,hL0,hLb,hLd,x37,hE37⟩;obtain⟨cc,hccd⟩:∃cc:Nat→Int,∀q,cc q=(L:Int)*ys.getD q 0/dnz xs q xs.length:=⟨_,λq=>rfl⟩;have hdv:∀q,q<xs.length→dnz xs q xs.length ∣ (L:Int)*ys.getD q 0:=λq hq=>Int.dvd_trans (by rw [←Int.natAbs_dvd_natAbs,Int.natAbs_natCast];exact hLd q hq) (Int.dvd_mul_right _ _)
 have hcc:∀q,q<xs.length→cc q*dnz xs q xs.length=(L:Int)*ys.getD q 0:=λq hq=>by rw [hccd];exact Int.ediv_mul_cancel (hdv q hq)
 have hLb:=Nat.le_trans hLb (hLB _ (Nat.le_refl _));have hLy:∀q,bl ((L:Int)*ys.getD q 0).natAbs≤LY:=λq=>Nat.le_trans (lh (m:=LB) (by rw [Int.natAbs_natCast];exact hLb) (hby q)) hLY
 have hccb:∀q,q<xs.length→bl (cc q).natAbs≤LY:=λq hq=>by
  refine Nat.le_trans (aY (Nat.lt_of_le_of_lt ?_ (fr _))) (hLy q);rw [←hcc q hq,Int.natAbs_mul];exact Nat.le_mul_of_pos_right _ (by have:=hdn q hq;omega)
 have hib:∀i j,i≤xs.length→bl (ips xs cc xs.length j i).natAbs≤NN:=λi j hi=>Nat.le_trans (zV (H:=TT+LY) λq hq=>Nat.le_trans (lh (bp (htl q xs.length (Nat.le_refl _)).2 j) (hccb q om)) om) om
 have hiz:∀i j,8≤j→ips xs cc xs.length j i=0:=by
  intro i j hj;induction i with
  | zero=>rfl
  | succ i ih=>rw [ips,ih,gtb (Nat.le_trans (htl i xs.length (Nat.le_refl _)).1 hj)];simp
 refine j1 (λ(sum:Sl) w59=>∃S,Rq (dg W64) w59 sum S∧Nm S∧(∀j,S.getD j 0=ips xs cc xs.length j xs.length)∧Xt1 t w37 w59∧Eg w59 p [zd,zm,pz,mo,hg,g,po,nu,ra,ro,dv,rc,c,m,d,k,e] t now tab) ?_ ?_
 ·refine lp2 (λM (sum:Sl) (x5:Int) w38=>∃(i:Nat) (S:List Int),x5=i∧M=xs.length-i∧i≤xs.length∧Rq (dg W64) w38 sum S∧Nm S∧(∀j,S.getD j 0=ips xs cc xs.length j i)∧Xt1 t w37 w38∧Eg w38 p [zd,zm,pz,mo,hg,g,po,nu,ra,ro,dv,rc,c,m,d,k,e] t now tab) xs.length ⟨0,[],rfl,om,om,(Oq.nil _ _ 0 T.af).rq,λz h=>by simp at h,λj=>by simp [ips],Ext.refl _ _,hE37⟩ ?_;rintro M sum x5 w38 ⟨i,S,rfl,rfl,hi,hS,nS,gS,x38,hE38⟩;refine ac (λh=>?_) (λh=>?_)
  ·have hi':i<xs.length:=om;have ed:Ext aa w38 w38.drew:=(Ext.refl _ _).drew;have hEd:=hE38.ext ed;have xd:Xt1 t w37 w38.drew:=x38.trans ed.any;have lS:S.length≤8:=nS.len_le λj hj=>by rw [gS];exact hiz _ _ hj
   have hyd:=hy6.extT hE6.tz (x37.trans xd);have hTdd:=hTd.extT hE37.tz xd;have hbed:Iz w38.drew below false (L:Int):=⟨L,hbe.extT hE37.tz xd,smp⟩
   have prod:∀{v:TW} {u:Sl} {un:Bool} {KK:Sl→Bool→TW→Prop},Ext aa w38.drew v→Iz v u un (ys.getD i 0)→(∀r r1 v',Io v' v.w.heap.size r r1 ((L:Int)*ys.getD i 0)→Xt1 t v v'→Eg v' p [zd,zm,pz,mo,hg,g,po,nu,ra,ro,dv,rc,c,m,d,k,e] t now tab→KK r r1 v')→cl Pg F.bi [.pointer p,.agg #[below.v,.bool false],.agg #[u.v,.bool un]] v [.agg [.slice,.bool]] KK:=by
    intro v u un KK ev hu hK;refine tM (hEd.ext ev).tz (pJ (hEd.ext ev) (hbed.ext ev) hu (by rw [Int.natAbs_natCast];exact Nat.le_trans (eV hLb) om) (Nat.le_trans (eV (hby i)) om) h0 h1) ?_;rintro r r1 v' xv ⟨hr,hEv⟩;exact hK r r1 v' hr xv hEv
   have even:∀{v:TW} {q:Option Addr} {r:Sl} {r1:Bool} {u:Sl} {un:Bool} {KK:Sl→Bool→Int→TW→Prop},Eg v q [nu,ra,ro,dv,rc,c,m,d,k,e] t now tab→Eg v p [zd,zm,pz,mo,hg,g,po,nu,ra,ro,dv,rc,c,m,d,k,e] t now tab→Iz v r r1 ((L:Int)*ys.getD i 0)→r1=decide ((L:Int)*ys.getD i 0<0)→Iz v u un (dnz xs i xs.length)→un=decide (dnz xs i xs.length<0)→(∀r r1 er v',Io v' v.w.heap.size r r1 (cc i)→Xt1 t v v'→Eg v' p [zd,zm,pz,mo,hg,g,po,nu,ra,ro,dv,rc,c,m,d,k,e] t now tab→KK r r1 er v')→cl Pg F.aE [.pointer q,.agg #[r.v,.bool r1],.agg #[u.v,.bool un]] v [.agg [.slice,.bool],.one (.int .i64)] KK:=by
    intro v q r r1 u un KK hq hv hr hr1 hu hun hK;refine tM hv.tz (pZ hEx hq hr hu (.inl hr1) hun (hdn i hi') (hQ _ _ (Nat.le_trans (eV (hLy i)) hYs) (Nat.le_trans (eV (hdb i _ (Nat.le_refl _))) om)) h0 h1) ?_;rintro r r1 er v' xv ⟨k1,-,E'⟩;have h9:=(k1 (hdv i hi')).2;rw [←hccd] at h9;exact hK r r1 er v' h9 xv (hv.re xv E')
   obtain⟨ltp,gtp⟩:=htl i xs.length (Nat.le_refl _)
   have tl:∀{v:TW} {r:Sl} {r1:Bool} {C0:Sl→Int→TW→Prop},Xt1 t w38 v→Eg v p [zd,zm,pz,mo,hg,g,po,nu,ra,ro,dv,rc,c,m,d,k,e] t now tab→Iz v r r1 (cc i)→(∀s v',Xt1 t w38 v'→Eg v' p [zd,zm,pz,mo,hg,g,po,nu,ra,ro,dv,rc,c,m,d,k,e] t now tab→(∃S,Rq (dg W64) v' s S∧Nm S∧∀j,S.getD j 0=ips xs cc xs.length j (i+1))→C0 s ((i+1:Nat):Int) v')→
     nck p λa20=>ldc (.ptr) v.drew a20 λ(v27:Option Addr)=>nck v27 λa21=>ldc (.ptr) v.drew a21 λ(v28:Option Addr)=>ixa tops ((i:Nat):Int) 1 λa22=>ldc (.slice) v.drew a22 λ(v29:Sl)=>cl Pg F.aC [.pointer v28,v29.v,.agg #[r.v,.bool r1]] v.drew [.one .slice] λ(s9:Sl) w43=>hld w43 [(a20,.pointer v27)] <| nwb w43 [sum.v,s9.v] T.bO λb8 w44=>hld w44 [(a20,.pointer v27)] <| cl Pg F.fF [.slice (some ⟨b8,0,none⟩) 2 2] w44 [.one .slice] λ(s10:Sl) w45=>hld w45 [(a20,.pointer v27)] <| bnd (wi (((i:Nat):Int)+1)) λn4=>C0 s10 n4 w45:=by
    intro v r r1 C0 xv hv hr hK;have ev:Ext aa v v.drew:=(Ext.refl _ _).drew;have hvd:=hv.ext ev;have xvd:Xt1 t w38 v.drew:=xv.trans ev.any;have hTz:=hTd.rz.extT hE37.tz (x38.trans xvd);refine hvd.down2z λ_ _ _ _ _ E2 H2=>?_
    refine hTz.ix (j:=i) rfl (by rw [wR];exact hi') λu hu=>?_
    rw [ab6 hi'] at hu;refine t1 hvd.tz (jZ E2 hu (hr.ext ev) om (λj=>Nat.le_trans (kL gtp j) om) (Nat.le_trans (eV (hccb i hi')) om) h0 h1) ?_;rintro s9 w43 x43 ⟨h43,E43⟩;have hE43:=hvd.re x43 E43;have H43:=(H2.extT x43).tail;refine aN H43 ?_;have hS43:=hS.extT hE38.tz (xvd.trans x43);refine zE hS43.ri h43.rq.ri λb8 w44 h44 e44=>?_
    refine aN (H43.ext e44) ?_;have gSc:hgt (Sc (cc i) (it xs i xs.length))≤NN:=Nat.le_trans (mG gtp (hccb i hi')) om;have gSS:hgt S≤NN:=dW λj=>by rw [gS];exact hib i j om
    have lSc:=sP (cc i) (it xs i xs.length);obtain⟨E0,hE0⟩:∃E,E=NN:=⟨_,rfl⟩;refine c1 (polyz_Plus (l:=⟨some ⟨b8,0,none⟩,2,2⟩) (M:=2^E0) h44 smp (λi2=>?_) (λi2 i3=>?_) ?_) ?_
    ·match i2 with
     | 0=>show S.length≤_;omega
     | 1=>show (Sc (cc i) (it xs i xs.length)).length≤_;omega
     | i2+2=>simp
    ·have key:∀L:List Int,hgt L≤E0→(L.getD i3 0).natAbs≤2^E0:=λL hL=>Nat.le_of_lt (fM (bp hL i3))
     match i2 with
     | 0=>exact key S om
     | 1=>exact key (Sc (cc i) (it xs i xs.length)) om
     | i2+2=>simp
    ·exact Nat.le_trans (szM E0) om
    rintro s10 w45 e45 ⟨S',h45,nS',gS'⟩;refine aN (H43.ext (e44.trans e45)) ?_;have hE45:=hE43.ext (e44.trans e45);refine ag (y:=((i+1:Nat):Int)) ((ar om om).trans om) ?_;refine hK s10 w45 ((xvd.trans x43).trans (e44.trans e45).any) hE45 ⟨S',h45.rq,nS',λj=>?_⟩;rw [gS',ips,←gS,←iB];simp [j8]
   have fin:∀(s:Sl) (v':TW),Xt1 t w38 v'→Eg v' p [zd,zm,pz,mo,hg,g,po,nu,ra,ro,dv,rc,c,m,d,k,e] t now tab→(∃S,Rq (dg W64) v' s S∧Nm S∧∀j,S.getD j 0=ips xs cc xs.length j (i+1))→∃m',m'<xs.length-i∧∃(i':Nat) (S:List Int),((i+1:Nat):Int)=i'∧m'=xs.length-i'∧i'≤xs.length∧Rq (dg W64) v' s S∧Nm S∧(∀j,S.getD j 0=ips xs cc xs.length j i')∧Xt1 t w37 v'∧Eg v' p [zd,zm,pz,mo,hg,g,po,nu,ra,ro,dv,rc,c,m,d,k,e] t now tab:=by
    rintro s v' xv hv ⟨S,k1,k2,k3⟩;exact⟨xs.length-(i+1),om,i+1,S,rfl,rfl,om,k1,k2,k3,x38.trans xv,hv⟩
   refine hEd.down7 λ_ _ _ _ _ _ _ _ _ _ _ _ _ _ E7 H7=>?_
   obtain⟨ts,hy1,hy2,hy3⟩:=hyd;refine hy1.at2h (j:=i) rfl om λa18 hcell=>?_
   have hyz:=hy3 i om;have hc0:=hcell _ (Ext.refl _ _);refine ldp hc0.2.1 hc0.2.2 ?_;refine hTdd.oq.ixT hEd.tz jd (j:=i) rfl (by rw [xw];exact hi') λa19 du db hel H19=>?_
   rw [acF hi'] at hel;have H9:=H19.app H7;have H6:=H7.tail;refine⟨?_,?_⟩
   ·refine prod (Ext.refl _ _) hyz λr13 r14 w39 hr x39 hE39=>?_
    refine aN (H9.extT x39) ⟨?_,?_⟩
    ·refine even (E7.re x39 hE39) hE39 hr.iz hr.2 (hel.iz.extT hEd.tz x39) hel.2 λr15 r16 er w40 hr15 x40 hE40=>?_
     have x3:=x39.trans x40;refine aN (H6.extT x3) ?_;intro w41 e41;refine aN ((H6.extT x3).ext e41) ?_;intro w42 e42;have e4:=e41.trans e42;exact tl (ed.any.trans (x3.trans e4.any)) (hE40.ext e4) (hr15.iz.ext e4) fin
    ·intro w46 e46;have x46:Xt1 t w38.drew w46:=x39.trans e46.any;refine aN (H9.extT x46) ?_;have hE46:=hE39.ext e46;refine even (E7.re x46 hE46) hE46 (hr.iz.ext e46) hr.2 (hel.iz.extT hEd.tz x46) hel.2 λr15 r16 er w47 hr15 x47 hE47=>?_
     have x3:=x46.trans x47;refine aN (H6.extT x3) ?_;intro w48 e48;exact tl (ed.any.trans (x3.trans e48.any)) (hE47.ext e48) (hr15.iz.ext e48) fin
   ·intro w52 e52;have hc52:=hcell _ e52;have H952:=H9.ext e52;refine iF (λa9 h9=>?_) ?_
    ·rcases List.mem_cons.1 h9 with rfl|h9
     ·exact (H19.ext e52 _ (List.mem_cons_self ..)).1.1
     rcases List.mem_cons.1 h9 with rfl|h9
     ·exact (H19.ext e52 _ (List.mem_cons_of_mem _ (List.mem_cons_self ..))).1.1
     rcases List.mem_cons.1 h9 with rfl|h9
     ·exact hc52.2.1
     rcases List.mem_cons.1 h9 with rfl|h9
     ·exact hc52.2.2
     ·exact (H7.ext e52 _ h9).1.1
    refine prod e52 (hyz.ext e52) λr13 r14 w53 hr x53 hE53=>?_
    have x5:Xt1 t w38.drew w53:=e52.any.trans x53;refine aN (H9.extT x5) ?_;refine even (E7.re x5 hE53) hE53 hr.iz hr.2 (hel.iz.extT hEd.tz x5) hel.2 λr15 r16 er w54 hr15 x54 hE54=>?_
    have x3:=x5.trans x54;refine aN (H6.extT x3) ?_;intro w55 e55;exact tl (ed.any.trans (x3.trans e55.any)) (hE54.ext e55) (hr15.iz.ext e55) fin
  ·have hie:i=xs.length:=om;subst hie;exact⟨S,hS,nS,gS,x38,hE38⟩
 rintro sum w59 ⟨S,hS,nS,gS,x59,hE59⟩;have z59:Xt1 t w.here w59:=(e56.any.trans x37).trans x59;have hbe59:Iz w59 below false (L:Int):=⟨L,hbe.extT hE37.tz x59,smp⟩;have lS:S.length≤8:=nS.len_le λj hj=>by rw [gS];exact hiz _ _ hj
 refine hE59.down2z λ_ _ _ _ _ E2 H2=>?_
 refine tM hE59.tz (qP hEx E2 hS nS hbe59 smp om om (λj=>by rw [gS];exact Nat.le_trans (eV (hib _ j (Nat.le_refl _))) om) (by rw [Int.natAbs_natCast];exact Nat.le_trans (eV hLb) om) (λj=>hQ _ _ (by rw [gS];exact Nat.le_trans (eV (hib _ j (Nat.le_refl _))) hN) (by rw [Int.natAbs_natCast];exact Nat.le_trans (eV hLb) hLs)) h0 h1) ?_;rintro s15 r26 w60 x60 ⟨ho1,ho2,E60⟩;have hE60:=hE59.re x60 E60;have hiff:(∀j,(L:Int) ∣ ips xs cc xs.length j xs.length)↔∀j,(L:Int) ∣ S.getD j 0:=⟨λh j=>by rw [gS];exact h j,λh j=>by rw [←gS];exact h j⟩;by_cases hd:∀j,(L:Int) ∣ S.getD j 0
 ·obtain⟨rfl,h60⟩:=ho1 hd;refine ap smp ?_;refine rt2 (c:=.slice) (d:=.int .i64) s15 0 (z59.trans x60) ⟨λh=>absurd hlen h,λ_ h=>absurd hD h,λ_ _=>⟨L,cc,om,hcc,λ_=>⟨rfl,_,h60.at,?_,λj=>?_⟩,λh=>absurd (hiff.2 hd) h⟩,hE60.at⟩
  ·refine yf λhne=>?_
   have hSne:S≠[]:=λe=>hne (by rw [e];rfl)
   rw [List.length_map,aZ smp];obtain⟨q,hq⟩:=hd (S.length-1);have:=nS.get hSne;intro e;rw [hq,Int.mul_ediv_cancel_left _ om] at e;rw [hq,e] at this;simp at this
  ·rw [aZ smp,gS]
 ·obtain⟨h9,rfl⟩:=ho2 hd;refine aQ (by simp;exact h9) ?_;exact rt2 (c:=.slice) (d:=.int .i64) Sl.nil 7 (z59.trans x60) ⟨λh=>absurd hlen h,λ_ h=>absurd hD h,λ_ _=>⟨L,cc,om,hcc,λh=>absurd (hiff.1 h) hd,λ_=>⟨rfl,rfl⟩⟩,hE60.at⟩
end
end
end Go.Proofs.YtpbimnlggalnfaaGreatDoor.Zg
