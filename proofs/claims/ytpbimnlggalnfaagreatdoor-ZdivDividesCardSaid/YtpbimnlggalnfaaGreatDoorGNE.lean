/- A part of the proofs of this seat's laws. -/
import Derived.Test.YtpbimnlggalnfaaGreatDoorGND
import Derived.Test.YtpbimnlggalnfaaGreatDoorGP4
import Derived.Test.YtpbimnlggalnfaaGreatDoorGZC
import Derived.Test.YtpbimnlggalnfaaGreatDoorGA
import Derived.Test.YtpbimnlggalnfaaGreatDoorGMA
import Derived.Test.YtpbimnlggalnfaaGreatDoorGMB
import Derived.Test.YtpbimnlggalnfaaGreatDoorGMD
import Derived.Test.YtpbimnlggalnfaaGreatDoorGME
import Derived.Test.YtpbimnlggalnfaaGreatDoorGKA
import Derived.Test.YtpbimnlggalnfaaGreatDoorGKE
import Derived.Test.YtpbimnlggalnfaaGreatDoorGIA
import Derived.Test.YtpbimnlggalnfaaGreatDoorGKC
import Derived.Test.YtpbimnlggalnfaaGreatDoorGHA
import Derived.Test.YtpbimnlggalnfaaGreatDoorGB
import Derived.Test.YtpbimnlggalnfaaGreatDoorGIB
import Derived.Test.YtpbimnlggalnfaaGreatDoorGJA
import Derived.Test.YtpbimnlggalnfaaGreatDoorGJB
import Derived.Test.YtpbimnlggalnfaaGreatDoorGJC
import Derived.Test.YtpbimnlggalnfaaGreatDoorGHD
import Derived.Test.YtpbimnlggalnfaaGreatDoorGHE
import Derived.Test.YtpbimnlggalnfaaGreatDoorGK
import Derived.Test.YtpbimnlggalnfaaGreatDoorGQ
import Derived.Test.YtpbimnlggalnfaaGreatDoorGMC
import Derived.Test.YtpbimnlggalnfaaGreatDoorGNA
import Derived.Test.YtpbimnlggalnfaaGreatDoorGNB
import Derived.Test.YtpbimnlggalnfaaGreatDoorGNC
import Derived.Test.YtpbimnlggalnfaaGreatDoorGP
import Derived.Test.YtpbimnlggalnfaaGreatDoorGP1
import Derived.Test.YtpbimnlggalnfaaGreatDoorGP2
import Derived.Test.YtpbimnlggalnfaaGreatDoorGP3
import Derived.Test.YtpbimnlggalnfaaGreatDoorGP5
import Derived.Test.YtpbimnlggalnfaaGreatDoorGS
import Derived.Test.YtpbimnlggalnfaaGreatDoorGC
set_option linter.unusedVariables false
set_option linter.unusedSimpArgs false
set_option linter.unnecessarySimpa false
namespace Go.Proofs.YtpbimnlggalnfaaGreatDoor.Zg
open Go.RowKit
section
section
variable {w:TW} {p:Option Addr} {zm pz mo hg g po nu ra ro dv rc c m d k e t:Nat} {now:Int} {tab:List Int}
set_option maxHeartbeats 1600000 in
theorem yK{w0:TW}{out ms ls:Sl}{M P B:Nat}{C:Nat→Int}{rs l:List Nat}(hE:Eg w p [zm,pz,mo,hg,g,po,nu,ra,ro,dv,rc,c,m,d,k,e] t now tab)(hE0:Eg w0 p [zm,pz,mo,hg,g,po,nu,ra,ro,dv,rc,c,m,d,k,e] t now tab)(hB0:w0.w.heap.size≤B)(ho:Opr w B out rs)(hm:Nt w ms M)(hl:Rd w ls l)(dm:∀c,ms.blk=some c→out.blk≠some c)(dl:∀c,ls.blk=some c→out.blk≠some c)(hrs:∀i,i<rs.length→((rs.getD i 0:Nat):Int)=C i%(M:Int))(hgl:∀i,l.getD i 0=(C i%(P:Int)).toNat)(m0:0<M)(hz:sz M≤4000)(h2:1<P)(hlt:P<4611686018427387904)(hc:Nat.gcd P M=1)(hN:rs.length≤1048576)(h0:0≤now)(h1:now≤1000000000000000000):
  Ct Pg F.eg [.pointer p,out.v,ms.v,ls.v,.int .u64 P] w (λk=>k=t∨out.blk=some k) [] λw'=>∃rs':List Nat,Opr w' B out rs'∧rs'.length=rs.length∧(∀i,i<rs.length→((rs'.getD i 0:Nat):Int)=C i%((M*P:Nat):Int))∧Eg w' p [zm,pz,mo,hg,g,po,nu,ra,ro,dv,rc,c,m,d,k,e] t now tab:=by
 refine Ct.eg ?_;unfold Sh.eg;have hPW:P<W64:=by rw [w64];omega
 have zP:sz P≤1:=gI hPW;refine c3 (limb_DivWord hm.here hPW om) ?_;rintro s r er w1 e1 ⟨-,rfl,-⟩;rw [if_neg om];have e1d:=e1.drew;have hE1:=hE.here.ext e1d;refine hE1.down2 λa0 q0 a1 q1 E2 H2=>?_
 have hmP:=Nat.mod_lt M (show 0<P by omega);refine c1 (limb_One (y:=M%P) om) λs1 w2 e2 g2=>?_
 refine aN (H2.ext e2) ?_;refine c1 (limb_One (y:=P) hPW) λs2 w3 e3 g3=>?_
 have e23:=e2.trans e3;refine aN (H2.ext e23) ?_;have E3:=E2.ext e23;have hE3:=hE1.ext e23;refine t2 hE3.tz (ut oN (ZZ:=1) (λx' y' h1 h2=>⟨om,.inl om⟩) dcd dcd E3 ((On.nt g2).ext e3) (On.nt g3) (gI (x:=M%P) om) zP h0 h1) ?_;rintro s3 er w4 x4 ⟨-,-,hI,E4⟩;obtain⟨-,inv,⟨hinv,hiv⟩,hIn⟩:=hI om (by rw [←Nat.gcd_rec];exact hc);refine aN ((H2.ext e23).extT x4).tail ?_;have hE4:=hE3.re x4 E4;have y4:Xt1 t w.here w4:=(e1d.trans e23).any.trans x4;have ho4:=((ho.here.ext e1d).ext e23).extT hE3.tz x4;have hm4:=((hm.here.ext e1d).ext e23).extT hE3.tz x4;have hl4:=((hl.here.ext e1d).ext e23).extT hE3.tz x4;have hw4:w.w.heap.size≤w4.w.heap.size:=y4.size
 have hinv1:inv*(M%P)%P=1:=by
  rw [Nat.mul_comm,hiv,Nat.mod_eq_of_lt h2]
 have dI:∀c,s3.blk=some c→out.blk≠some c:=λc hc' h'=>by
  have q1:=Ow.blk_le hIn c hc';have q2:=(ho.lt_blk c h').2;have q3:w.here.w.heap.size≤w3.w.heap.size:=(e1d.trans e23).size;have q4:w.here.w.heap.size=w.w.heap.size:=rfl;omega
 refine j0 (λw13=>(∃rs':List Nat,Opr w13 B out rs'∧rs'.length=rs.length∧(∀i,i<rs.length→((rs'.getD i 0:Nat):Int)=C i%((M*P:Nat):Int)))∧Ext (λc=>out.blk=some c) w4 w13∧Eg w13 p [zm,pz,mo,hg,g,po,nu,ra,ro,dv,rc,c,m,d,k,e] t now tab) ?_ ?_
 ·refine lp1 (λQ (x:Int) w5=>∃j rs',x=(j:Nat)∧Q=rs.length-j∧j≤rs.length∧Opr w5 B out rs'∧rs'.length=rs.length∧(∀i,i<j→((rs'.getD i 0:Nat):Int)=C i%((M*P:Nat):Int))∧(∀i,j≤i→rs'.getD i 0=rs.getD i 0)∧Ext (λc=>out.blk=some c) w4 w5∧Eg w5 p [zm,pz,mo,hg,g,po,nu,ra,ro,dv,rc,c,m,d,k,e] t now tab) rs.length ⟨0,rs,rfl,om,om,ho4,rfl,λi h=>(by omega),λi _=>rfl,Ext.refl _ _,hE4⟩ ?_;rintro Q x w5 ⟨j,rs',rfl,rfl,hj,ho5,hlen,hdone,hrest,x5,hE5⟩;have hon:=ho5.len;refine ac (λh=>?_) (λh=>?_)
  ·have hj':j<rs.length:=om;have hl5:=hl4.extX x5 λb hb h'=>dl b hb h'
   have hm5:=hm4.extX x5 λb hb h'=>dm b hb h'
   have hI5:=On.extX hIn x5 λb hb h'=>dI b hb h'
   have nl:=hl5.len;refine j1 (λ(r:Int) w6=>r=(l.getD j 0:Nat)∧w6=w5) ?_ ?_
   ·refine ac (λh=>?_) (λh=>?_)
    ·exact hl5.ix (j:=j) rfl om ⟨rfl,rfl⟩
    ·exact⟨by rw [eW om];rfl,rfl⟩
   rintro r w6 ⟨rfl,rfl⟩;have hRj:rs'.getD j 0=rs.getD j 0:=hrest j (Nat.le_refl _);have hRm:=hrs j hj'
   have hRlt:rs.getD j 0<M:=by
    have:=Int.emod_lt_of_pos (C j) (show (0:Int)<M by omega);omega
   have zR:sz (rs.getD j 0)≤4000:=Nat.le_trans (aq (Nat.le_of_lt hRlt)) hz
   have hr:((l.getD j 0:Nat):Int)=C j%(P:Int):=by
    rw [hgl j];exact Int.toNat_of_nonneg (Int.emod_nonneg _ om)
   have hrP:l.getD j 0<P:=by
    have:=Int.emod_lt_of_pos (C j) (show (0:Int)<P by omega);omega
   refine ho5.ix (j:=j) rfl om λa3 u v hu k0 _ _=>⟨u,k0,?_⟩
   rw [hRj] at hu;refine c3 (limb_DivWord hu hPW om) ?_;rintro s4 r4 er w7 e7 ⟨-,rfl,-⟩;rw [if_neg om];have hhv:=Nat.mod_lt (rs.getD j 0) (show 0<P by omega);have hst:=zH m0 h2 hRm hr hc hinv1;obtain⟨R,hR⟩:∃R,rs.getD j 0=R:=⟨_,rfl⟩;obtain⟨rr,hrr⟩:∃rr,l.getD j 0=rr:=⟨_,rfl⟩;rw [hR] at hst hhv zR hRj ⊢;rw [hrr] at hst hrP ⊢;obtain⟨r6,hr6⟩:∃r6,(if rr<R%P then rr+P else rr)=r6:=⟨_,rfl⟩;rw [hr6] at hst;refine j1 (λ(x:Int) w8=>x=(r6:Nat)∧w8=w7) ?_ ?_
   ·refine ac (λh=>?_) (λh=>?_)
    ·refine ai (y:=rr+P) om (by rw [w64];omega) ⟨?_,rfl⟩;rw [←hr6,if_pos om]
    ·refine⟨?_,rfl⟩;rw [←hr6,if_neg om]
   rintro x w8 ⟨rfl,rfl⟩;have hr6b:R%P≤r6∧r6<2*P:=by rw [←hr6];split<;>omega
   refine fA (a:=r6) (b:=R%P) rfl rfl hr6b.1 (by rw [w64];omega) ?_;have zi:sz inv≤1:=gI om;refine c1 (limb_MulWord (y:=r6-R%P) ((On.nt hI5).ext e7) (by rw [w64];omega) om) λs5 w9 e9 g9=>?_
   refine c3 (limb_DivWord (On.nt g9) hPW (by have:=dt inv (r6-R%P);have:=gI (x:=r6-R%P) (by rw [w64];omega);omega)) ?_;rintro s6 r7 er w10 e10 ⟨-,rfl,-⟩;rw [if_neg om];have e710:=(e7.trans e9).trans e10;have ho10:=ho5.ext e710;refine ho10.ix (j:=j) rfl om λa4 u4 v4 hu4 k4 _ _=>⟨u4,k4,?_⟩
   rw [hRj] at hu4;have htP:=Nat.mod_lt (inv*(r6-R%P)) (show 0<P by omega);refine c1 (limb_AddMul hu4 (hm5.ext e710) (y:=inv*(r6-R%P)%P) om om om) λs7 w11 e11 g11=>?_
   have e711:=e710.trans e11;have ho11:=ho5.ext e711;refine ho11.set (z:=R+M*(inv*(r6-R%P)%P)) rfl om (Ow.rd g11) (λ_ c hc'=>⟨λh'=>?_,(Ow.from_ g11 c hc').2⟩) λw12 h12 e12=>?_
   ·have q1:=Ow.blk_le g11 c hc';have q2:=(ho10.lt_blk c h').2;omega
   have hX:∀c,out.blk=some c→w0.w.heap.size≤c:=λc hc'=>Nat.le_trans hB0 (ho11.lt_blk c hc').1
   have hE12:=(hE5.ext e711).young hE0 e12 hX;refine ab om om ⟨rs.length-(j+1),om,j+1,_,om,rfl,om,h12,by simp [hlen],λi hi=>?_,λi hi=>?_,x5.trans (e711.any.trans e12),hE12⟩
   ·rw [i5 om];by_cases h':i=j
    ·rw [if_pos h',h',hst]
    ·rw [if_neg h'];exact hdone i om
   ·rw [i5 om,if_neg om];exact hrest i om
  ·exact⟨⟨rs',ho5,hlen,λi hi=>hdone i om⟩,x5,hE5⟩
 rintro w13 ⟨⟨rs',h13,hlen,hv⟩,x13,hE13⟩;refine rt0 ((y4.weak λ_ h=>.inl h).trans (x13.weak λ_ h=>.inr h)) ⟨rs',h13.at,hlen,hv,hE13.at⟩
theorem ab8{low p:Nat}(h:Sq low (k+1) p m):∃q,Nxp p q∧low<q∧Nat.gcd q m=1∧Sq low k q (m*q):=h
set_option maxHeartbeats 3200000 in
theorem yL{a b:Sl}{xs ys:List Int}(hE:Eg w p [zm,pz,mo,hg,g,po,nu,ra,ro,dv,rc,c,m,d,k,e] t now tab)(ha:Ri w a xs)(hb:Ri w b ys)(hs:Shk xs ys)(hbd:bd xs ys≤4300)(h0:0≤now)(h1:now≤1000000000000000000):
  Ct Pg F.eh [.pointer p,a.v,b.v] w (λk=>k=t) [.one .slice] λ(s:Sl) w'=>Rq (dg W64) w' s (pmt xs ys)∧Eg w' p [zm,pz,mo,hg,g,po,nu,ra,ro,dv,rc,c,m,d,k,e] t now tab:=by
 refine Ct.eh ?_;unfold Sh.eh;obtain⟨l1,l2,l3⟩:=id hs;refine uG ha.here hb.here hs.sht λs u w3 e3 hA hB=>?_
 have hE3:=hE.here.ext e3;have n1:=hA.len;have n2:=hB.len;have t1':=ao xs;have t2':=ao ys;refine kT n1 n2 ?_;refine ac (λhz0=>?_) (λhz0=>?_)
 ·refine rt1 (c:=.slice) Sl.nil e3.any ⟨?_,hE3.at⟩;rw [ph hz0];exact (Oq.nil _ _ 0 T.af).rq
 have hst:=hs.trim;have hpm:∀k,(pm (ae xs) (ae ys)).getD k 0=(pm xs ys).getD k 0:=λk=>fT (λi=>aT _ _) (λi=>aT _ _) k
 have hbt:=xH xs ys
 have hcb:∀i,bl ((pm (ae xs) (ae ys)).getD i 0).natAbs≤bd xs ys:=λi=>by
  have:=pj (ae xs) (ae ys) i;unfold bd;rw [if_neg hz0];rw [fJ,fJ] at this;exact this
 obtain⟨X,hX⟩:∃X,ae xs=X:=⟨_,rfl⟩;obtain⟨Y,hY⟩:∃Y,ae ys=Y:=⟨_,rfl⟩;rw [hX] at hA n1 t1' hz0 hst hpm hcb hbt;rw [hY] at hB n2 t2' hz0 hst hpm hcb hbt;refine ab om om (ab om om ?_);obtain⟨N,hN⟩:∃N,N=X.length+Y.length-1:=⟨_,rfl⟩;refine ad6 (N:=N) om om λout w4 hO e4=>?_
 refine c1 (limb_One (y:=1) dcd) λs3 w5 e5 h5=>?_
 have e35:=e4.trans e5;have hE5:=hE3.ext e35;obtain⟨bb,hbb⟩:∃bb,bd xs ys=bb:=⟨_,rfl⟩;rw [hbb] at hbd hcb hbt;refine j1 (λ(m1:Sl) w13=>∃(M:Nat) (rs:List Nat),Nt w13 m1 M∧bb+2≤bl M∧0<M∧sz M≤80∧Opr w13 w3.w.heap.size out rs∧rs.length=N∧(∀i,i<N→((rs.getD i 0:Nat):Int)=(pm X Y).getD i 0%(M:Int))∧Xt1 t w3 w13∧Eg w13 p [zm,pz,mo,hg,g,po,nu,ra,ro,dv,rc,c,m,d,k,e] t now tab) ?_ ?_
 ·refine lp2 (λQ (ms:Sl) (pi:Int) w6=>∃(j M P:Nat) (rs:List Nat),pi=P∧Q=72-j∧j≤72∧Sq 2305843009213693952 (72-j) P M∧P≤4611686018427387904∧2^(61*j)≤M∧M≤2^(62*j)∧w4.w.heap.size≤w6.w.heap.size∧On w6 w4.w.heap.size ms M∧Opr w6 w3.w.heap.size out rs∧rs.length=N∧(∀i,i<N→((rs.getD i 0:Nat):Int)=(pm X Y).getD i 0%(M:Int))∧Xt1 t w3 w6∧Eg w6 p [zm,pz,mo,hg,g,po,nu,ra,ro,dv,rc,c,m,d,k,e] t now tab) 72 ⟨0,1,4611686018427387904,_,rfl,rfl,om,aeo,Nat.le_refl _,smp,smp,e5.size,h5,hO.ext e5,smp,λi hi=>by rw [mC];simp,e35.any,hE5⟩ ?_;rintro Q ms pi w6 ⟨j,M,P,rs,rfl,rfl,hj,hsq,hP,hlo,hhi,sz6,hm,ho,hlen,hrs,x6,hE6⟩;have hM0:0<M:=Nat.lt_of_lt_of_le (Nat.two_pow_pos _) hlo
  have hszM:sz M≤72:=by
   have h':M<2^(62*j+1):=Nat.lt_of_le_of_lt hhi (Nat.pow_lt_pow_right dcd om);have:=iq h';omega
  refine c1 (i6 (On.nt hm) om) ?_;rintro r w7 e7 rfl;have hA7:=hA.extT hE3.tz (x6.trans e7.any) (he:=jd);have hB7:=hB.extT hE3.tz (x6.trans e7.any) (he:=jd);refine c1 (rF hA7.rq.ri hB7.rq.ri hst) ?_;rintro r w8 e8 rfl;rw [hbt];refine ab om om ?_;obtain⟨Z,hZ⟩:∃Z:Nat,Z=4608:=⟨_,rfl⟩;have hbm:bl M≤Z:=aY (by have:=gN M;rw [show W64^sz M=2^(64*sz M) by rw [Nat.pow_mul]] at this;exact Nat.lt_of_lt_of_le this (Nat.pow_le_pow_right dcd om));have e78:=e7.trans e8;have hE8:=hE6.ext e78;have hm8:=On.ext hm e78;have ho8:=ho.ext e78;have x8:Xt1 t w3 w8:=x6.trans e78.any;refine ac (λh=>?_) (λh=>?_)
  ·have hbM:bl M<bb+2:=om
   have hj72:j<72:=by
    rcases Nat.lt_or_ge j 72 with h'|h'
    ·exact h'
    ·exfalso;have h6:=fr M;have h7:2^bl M≤2^(61*j):=Nat.pow_le_pow_right dcd om;omega
   obtain⟨q,hq,hlow,hgc,hsq'⟩:=ab8 (k:=71-j) (show Sq 2305843009213693952 (71-j+1) P M by rw [show 71-j+1=72-j by omega];exact hsq);have hqP:=hq.1;have hisP:=hq.2.1;have hodd:=acx hisP om;refine c1 (zmul_before hE8.gl hP hq) ?_;rintro r w9 e9 rfl;have hE9:=hE8.ext e9;have hA9:=hA.extT hE3.tz (x8.trans e9.any) (he:=jd);have hB9:=hB.extT hE3.tz (x8.trans e9.any) (he:=jd);refine t1 hE9.tz (wn (P:=q) hE9 hA9.rq.ri hB9.rq.ri hst om om hodd hisP) ?_;rintro s4 w10 x10 ⟨⟨lr,hlr,nlr,glr⟩,hE10⟩;have hT9:=hE9.tz;have hm10:=On.extT (On.ext hm8 e9) hT9 x10;have ho10:=(ho8.ext e9).extT hT9 x10;have x310:Xt1 t w3 w10:=(x8.trans e9.any).trans x10;have hout:∀c,out.blk=some c→c<w4.w.heap.size:=λc hc=>(hO.lt_blk c hc).2
   have s49:w4.w.heap.size≤w9.w.heap.size:=Nat.le_trans sz6 (e78.trans e9).size
   have dm:∀c,ms.blk=some c→out.blk≠some c:=λc hc h'=>by
    have:=Ow.blk_le hm10 c hc;have:=hout c h';omega
   refine gW (yK (w0:=w3) (C:=λi=>(pm X Y).getD i 0) (P:=q) hE10 hE3 (Nat.le_refl _) ho10 (On.nt hm10) hlr.rd dm (λc hc h'=>?_) (λi hi=>hrs i om) glr hM0 om om om hgc om h0 h1) (λc hc=>hc.elim (λh'=>by subst h';exact hE10.V) λh'=>ho10.V c h') ?_
   ·have:=Ow.blk_le hlr c hc;have:=hout c h';omega
   rintro w11 x11 ⟨rs',ho11,hlen',hrs',hE11⟩;have hm11:=On.extX hm10 x11 λb hb h'=>h'.elim (λh'=>by subst h';exact Ow.neT hm10 hE10.tz hb) (dm b hb)
   have x311:Xt1 t w3 w11:=Ext.mineT x310 x11 λc hc=>hc.elim .inl λh'=>.inr (ho10.lt_blk c h').1
   refine c1 (limb_MulWord (y:=q) (On.nt hm11) (by rw [w64];omega) om) λs5 w12 e12 h12=>?_
   have s411:w4.w.heap.size≤w11.w.heap.size:=Nat.le_trans s49 (Nat.le_trans x10.size x11.size);refine⟨72-(j+1),om,j+1,M*q,q,rs',rfl,rfl,om,by rw [show 72-(j+1)=71-j by omega];exact hsq',om,?_,?_,Nat.le_trans s411 e12.size,h12.less s411,ho11.ext e12,om,λi hi=>hrs' i om,x311.trans e12.any,hE11.ext e12⟩
   ·rw [Nat.mul_add,Nat.mul_one,Nat.pow_add];exact Nat.mul_le_mul hlo om
   ·rw [Nat.mul_add,Nat.mul_one,Nat.pow_add];exact Nat.mul_le_mul hhi om
  ·exact⟨M,rs,On.nt hm8,om,hM0,om,ho8,hlen,hrs,x8,hE8⟩
 rintro m1 w13 ⟨M,rs,hm,hbM,hM0,hzM,ho,hlen,hrs,x13,hE13⟩;have hon:=ho.len
 have hback:∀i,2*((pm X Y).getD i 0).natAbs<M:=λi=>by
  have q1:=fM (hcb i);have q2:=qG hM0;have q3:2^(bb+1)≤2^(bl M-1):=Nat.pow_le_pow_right dcd om;rw [Nat.pow_succ] at q3;omega
 refine rk (D:=dg W64) (az _) (N:=N) om om λs6 w14 h14 e14=>?_
 refine j0 (λw21=>(∃l,Oq (dg W64) w21 w13.w.heap.size T.af s6 l∧l.length=N∧∀i,l.getD i 0=(pm X Y).getD i 0)∧Xt1 t w13 w21∧Eg w21 p [zm,pz,mo,hg,g,po,nu,ra,ro,dv,rc,c,m,d,k,e] t now tab) ?_ ?_
 ·refine lp1 (λQ (x:Int) w15=>∃j l,x=(j:Nat)∧Q=N-j∧j≤N∧Oq (dg W64) w15 w13.w.heap.size T.af s6 l∧l.length=N∧(∀i,i<j→l.getD i 0=(pm X Y).getD i 0)∧Xt1 t w13 w15∧Eg w15 p [zm,pz,mo,hg,g,po,nu,ra,ro,dv,rc,c,m,d,k,e] t now tab) N ⟨0,_,rfl,om,om,h14,smp,λi h=>(by omega),e14.any,hE13.ext e14⟩ ?_;rintro Q x w15 ⟨j,l,rfl,rfl,hj,h15,hl,hv,x15,hE15⟩;refine ac (λh=>?_) (λh=>?_)
  ·have hj':j<N:=om;have ho15:=ho.extT hE13.tz x15;have hm15:=hm.extT hE13.tz x15;refine ho15.ix (j:=j) rfl om λa1 uu vv hu _ k0 k1=>⟨uu,k0,vv,k1,?_⟩
   intro w16 e16 w17 e17;have e157:=(e16.trans e17).drew;have hE17:=hE15.ext e157;refine hE17.down2 λa2 q2 a3 q3 E2 H2=>?_
   have hRm:=hrs j hj'
   have hRlt:rs.getD j 0<M:=by
    have:=Int.emod_lt_of_pos ((pm X Y).getD j 0) (show (0:Int)<M by omega);omega
   have zR:sz (rs.getD j 0)≤80:=Nat.le_trans (aq (Nat.le_of_lt hRlt)) hzM;refine tM hE17.tz (vu oN E2 (hu.ext e157) (hm15.ext e157) ⟨om,.inr (by have:=aq (Nat.le_of_lt hRlt);omega)⟩ om om h0 h1) ?_;rintro r3 r4 er w18 x18 ⟨-,hS,E2'⟩;obtain⟨-,hIo⟩:=hS hM0;rw [aaF (hback j) hRm] at hIo;have hE18:=hE17.re x18 E2';refine aN (H2.extT x18).tail ?_;have y18:Xt1 t w15 w18:=e157.any.trans x18;have h18:=h15.extT hE15.tz jd y18;refine h18.set (z:=(pm X Y).getD j 0) rfl om hIo.el (λ_ c hc=>⟨λh'=>?_,(Ow.from_ hIo.1 c hc).2⟩) λw20 h20 e20=>?_
   ·have q1:=Ow.blk_le hIo.1 c hc;have q2:=(h15.lt_blk c h').2;have q3:=e157.size;omega
   have hX:∀c,s6.blk=some c→w13.w.heap.size≤c:=λc hc=>(h18.lt_blk c hc).1
   have hE20:=hE18.young hE13 e20 hX;refine ab om om ⟨N-(j+1),om,j+1,_,om,rfl,om,h20,by simp [hl],λi hi=>?_,Ext.mineT (x15.trans y18) e20 λc hc=>.inr (hX c hc),hE20⟩;rw [kS om];by_cases h':i=j
   ·rw [if_pos h',h']
   ·rw [if_neg h'];exact hv i om
  ·refine⟨⟨l,h15,hl,λi=>?_⟩,x15,hE15⟩;rcases Nat.lt_or_ge i j with hi|hi
   ·exact hv i hi
   ·rw [fU om,adc om]
 rintro w21 ⟨⟨l,h21,hl,hv⟩,x21,hE21⟩;refine c1 (polyz_Norm h21.rq.ri om λi=>?_) λs7 w22 e22 h22=>?_
 ·rw [hv i];have:=iq (fM (hcb i));omega
 rw [td (a:=xs) (b:=ys) (l:=l) λk=>by rw [hv k,hpm k]] at h22;exact rt1 (c:=.slice) _ (((e3.any.trans x13).trans x21).trans e22.any) ⟨h22.rq.at,(hE21.ext e22).at⟩
end
end
section
variable {D:Nat→List Nat}
section
variable {w w':TW} {p:Option Addr} {t:Nat} {tab:List Int}
end
theorem zO{w:TW}{a b:Sl × Bool}{z:Int}(ha:El D w a z)(hb:El D w b z):Ct Pg F.bA [.agg #[a.1.v,.bool a.2],.agg #[b.1.v,.bool b.2]] w aa [.one .bool] λ(r:Bool) _=>r=true:=by
 refine Ct.bA ?_;unfold Sh.bA;intro w1 e1 w2 e2;have e:=e1.trans e2;refine j1 (λ(r:Bool) w'=>r=true∧Ext aa w.here w') ?_ ?_
 ·refine aQ (by rw [ha.2,hb.2];simp) ?_;refine c1 (ua (ha.1.here.ext e) (hb.1.here.ext e)) ?_;rintro r w3 e3 rfl;exact⟨rfl,e.trans e3⟩
 rintro r w' ⟨rfl,e'⟩;exact rt1 (c:=.bool) _ e' rfl
theorem zN{w:TW}{a b:Sl}{zs:List Int}(ha:Rq D w a zs)(hb:Rq D w b zs)(hn:zs.length≤1099511627776):Ct Pg F.cF [a.v,b.v] w aa [.one .bool] λ(r:Bool) _=>r=true:=by
 refine Ct.cF ?_;unfold Sh.cF;have na:=ha.len;have nb:=hb.len;refine ap (by rw [na,nb];simp) ?_;refine j0 (λw'=>Ext aa w.here w') ?_ ?_
 ·refine lp1 (λm (x:Int) w1=>∃j:Nat,x=j∧m=zs.length-j∧j≤zs.length∧Ext aa w.here w1) zs.length ⟨0,rfl,om,om,Ext.refl _ _⟩ ?_;rintro m x w1 ⟨j,rfl,rfl,hj,e1⟩;refine ac (λh=>?_) (λh=>e1);have e1d:=e1.drew;refine (ha.here.ext e1d).ix (j:=j) rfl om λa1 t1 h1 _ q0 q1=>ldp q0 q1 ?_
  refine (hb.here.ext e1d).ix (j:=j) rfl om λa2 t2 h2 _ r0 r1=>ldp r0 r1 ?_
  refine c1 (zO h1 h2) ?_;rintro r w2 e2 rfl;exact ap rfl (ab om om ⟨zs.length-(j+1),om,j+1,om,rfl,om,e1d.trans e2⟩)
 intro w' e;exact rt1 (c:=.bool) _ e rfl
section
variable {w:TW} {p:Option Addr} {t:Nat} {now:Int} {tab:List Int}
end
end
section
def Shw(a b:List Int):Prop:=Shk a b∧bd a b≤4300
theorem Shw.of{a b:List Int}(h1:a.length≤4096)(h2:b.length≤4096)(h3:hgt a+hgt b≤4280):Shw a b:=by
 refine⟨⟨h1,h2,om⟩,?_⟩;unfold bd;split
 ·omega
 ·have:=ao a;have:bl (min (ae a).length (ae b).length)≤13:=aY om;omega
section
variable {w:TW} {p:Option Addr} {zm pz mo hg g po nu ra ro dv rc c m d k e t:Nat} {now:Int} {tab:List Int}
theorem xJ{a b:Sl}{xs ys:List Int}(hE:Eg w p [zm,pz,mo,hg,g,po,nu,ra,ro,dv,rc,c,m,d,k,e] t now tab)(ha:Ri w a xs)(hb:Ri w b ys)(hs:Shw xs ys)(h0:0≤now)(h1:now≤1000000000000000000):
  Ct Pg F.ax [.pointer p,a.v,b.v] w (λk=>k=t) [.one .slice] λ(s:Sl) w'=>Rq (dg W64) w' s (pmt xs ys)∧Eg w' p [zm,pz,mo,hg,g,po,nu,ra,ro,dv,rc,c,m,d,k,e] t now tab:=by
 refine Ct.ax ?_;unfold Sh.ax;obtain⟨l1,l2,-⟩:=id hs.1;have k1:=ao xs;have k2:=ao ys;refine c1 (polyz_Deg ha.here om) ?_;rintro r w1 e1 rfl;refine c1 (polyz_Deg (hb.here.ext e1) om) ?_;rintro r w2 e2 rfl;have e12:=e1.trans e2;have hE2:=hE.here.ext e12;have ha2:=ha.here.ext e12;have hb2:=hb.here.ext e12;refine ag (y:=(((min (ae xs).length (ae ys).length:Nat):Int)-1)) (by split<;>omega) ?_;refine ab om om ?_;obtain⟨r0,r1,r2,r3,r4,r5,r6,r7,r8,r9,r10,htab,hr⟩:=hE2.2.2.1;subst htab;refine hE2.down16 λ_ _ _ _ _ _ _ _ _ _ _ _ _ _ _ _ _ _ _ _ _ _ _ _ _ _ _ _ _ _ _ _ E16 _=>E16.ent (i:=7) rfl ?_
 refine ac (λh=>?_) (λh=>?_)
 ·refine hE2.down λq1 E1=>?_
  refine t1 hE2.tz (rW E1 ha2 hb2 hs.1.sht h0 h1) ?_;rintro s w3 x3 ⟨h3,E3⟩;exact rt1 (c:=.slice) _ (e12.any.trans x3) ⟨h3.rq.at,(hE2.re x3 E3).at⟩
 refine hE2.down16 λ_ _ _ _ _ _ _ _ _ _ _ _ _ _ _ _ _ _ _ _ _ _ _ _ _ _ _ _ _ _ _ _ E16 _=>E16.ent (i:=8) rfl ?_
 refine ac (λh=>?_) (λh=>?_)
 ·refine t1 hE2.tz (yM hE2 ha2 hb2 hs.1 h0 h1) ?_;rintro s w3 x3 ⟨h3,hE3⟩;exact rt1 (c:=.slice) _ (e12.any.trans x3) ⟨h3.at,hE3.at⟩
 ·refine t1 hE2.tz (yL hE2 ha2 hb2 hs.1 hs.2 h0 h1) ?_;rintro s w3 x3 ⟨h3,hE3⟩;exact rt1 (c:=.slice) _ (e12.any.trans x3) ⟨h3.at,hE3.at⟩
end
end
end Go.Proofs.YtpbimnlggalnfaaGreatDoor.Zg
