/- A part of the proofs of this seat's laws: words, lemmas or contracts of its functions. -/
import Derived.Test.YtjhfalgmgagdhaaGreatDoorGND
import Derived.Test.YtjhfalgmgagdhaaGreatDoorGP4
import Derived.Test.YtjhfalgmgagdhaaGreatDoorGHG
set_option linter.unusedVariables false
set_option linter.unusedSimpArgs false
set_option linter.unnecessarySimpa false
section
namespace Go.Proofs.YtjhfalgmgagdhaaGreatDoor.Zg
open Go.RowKit
section
variable {w:TW} {p:Option Addr} {zm pz mo hg g po nu ra ro dv rc c m d k e t:Nat} {now:Int} {tab:List Int}
set_option maxHeartbeats 1600000 in
theorem zmul_more {w0:TW} {out ms ls:Sl} {M P B:Nat} {C:Nat→Int} {rs l:List Nat} (hE:Eg w p [zm,pz,mo,hg,g,po,nu,ra,ro,dv,rc,c,m,d,k,e] t now tab) (hE0:Eg w0 p [zm,pz,mo,hg,g,po,nu,ra,ro,dv,rc,c,m,d,k,e] t now tab) (hB0:w0.w.heap.size≤B) (ho:Opr w B out rs) (hm:Nt w ms M) (hl:Rd w ls l)
  (dm:∀c,ms.blk=some c→out.blk≠some c) (dl:∀c,ls.blk=some c→out.blk≠some c) (hrs:∀i,i<rs.length→((rs.getD i 0:Nat):Int)=C i%(M:Int)) (hgl:∀i,l.getD i 0=(C i%(P:Int)).toNat) (m0:0<M) (hz:sz M≤4000) (h2:1<P) (hlt:P<4611686018427387904) (hc:Nat.gcd P M=1) (hN:rs.length≤1048576) (h0:0≤now) (h1:now≤1000000000000000000):
  Ct Pg F.zmul_Engine_more [.pointer p,out.v,ms.v,ls.v,.int .u64 P] w (fun k=>k=t∨out.blk=some k) [] fun w'=>∃rs':List Nat,Opr w' B out rs'∧rs'.length=rs.length∧(∀i,i<rs.length→((rs'.getD i 0:Nat):Int)=C i%((M*P:Nat):Int))∧Eg w' p [zm,pz,mo,hg,g,po,nu,ra,ro,dv,rc,c,m,d,k,e] t now tab:=by
 refine Ct.zmul_Engine_more ?_
 unfold Sh.zmul_Engine_more
 have hPW:P<W64:=by rw [w64];omega
 have zP:sz P≤1:=sz_word hPW
 refine c3 (limb_DivWord hm.here hPW (by omega)) ?_
 rintro s r er w1 e1 ⟨-,rfl,-⟩
 rw [if_neg (by omega)]
 have e1d:=e1.drew
 have hE1:=hE.here.ext e1d
 refine hE1.down2 fun a0 q0 a1 q1 E2 H2=>?_
 have hmP:=Nat.mod_lt M (show 0<P by omega)
 refine c1 (limb_One (y:=M%P) (by omega)) fun s1 w2 e2 g2=>?_
 refine hldC (H2.ext e2) ?_
 refine c1 (limb_One (y:=P) hPW) fun s2 w3 e3 g3=>?_
 have e23:=e2.trans e3
 refine hldC (H2.ext e23) ?_
 have E3:=E2.ext e23
 have hE3:=hE1.ext e23
 refine t2 hE3.tz (modn_Inverse E3 ((On.nt g2).ext e3) (On.nt g3) (Nat.le_trans (sz_word (x:=M%P) (by omega)) (by decide)) (by omega) h0 h1) ?_
 rintro s3 er w4 x4 ⟨-,-,hI,E4⟩
 obtain ⟨-,inv,⟨hinv,hiv⟩,hIn⟩:=hI (by omega) (by rw [←Nat.gcd_rec];exact hc)
 refine hldC ((H2.ext e23).extT x4).tail ?_
 have hE4:=hE3.re x4 E4
 have y4:Xt1 t w.here w4:=(e1d.trans e23).any.trans x4
 have ho4:=((ho.here.ext e1d).ext e23).extT hE3.tz x4
 have hm4:=((hm.here.ext e1d).ext e23).extT hE3.tz x4
 have hl4:=((hl.here.ext e1d).ext e23).extT hE3.tz x4
 have hw4:w.w.heap.size≤w4.w.heap.size:=y4.size
 have hinv1:inv*(M%P)%P=1:=by
  rw [Nat.mul_comm,hiv,Nat.mod_eq_of_lt h2]
 have dI:∀c,s3.blk=some c→out.blk≠some c:=fun c hc' h'=>by
  have q1:=Ow.blk_le hIn c hc'
  have q2:=(ho.lt_blk c h').2
  have q3:w.here.w.heap.size≤w3.w.heap.size:=(e1d.trans e23).size
  have q4:w.here.w.heap.size=w.w.heap.size:=rfl
  omega
 refine j0 (fun w13=>(∃rs':List Nat,Opr w13 B out rs'∧rs'.length=rs.length∧(∀i,i<rs.length→((rs'.getD i 0:Nat):Int)=C i%((M*P:Nat):Int)))∧Ext (fun c=>out.blk=some c) w4 w13∧Eg w13 p [zm,pz,mo,hg,g,po,nu,ra,ro,dv,rc,c,m,d,k,e] t now tab) ?_ ?_
 ·refine lp1 (fun Q (x:Int) w5=>∃j rs',x=(j:Nat)∧Q=rs.length-j∧j≤rs.length∧Opr w5 B out rs'∧rs'.length=rs.length∧(∀i,i<j→((rs'.getD i 0:Nat):Int)=C i%((M*P:Nat):Int))∧(∀i,j≤i→rs'.getD i 0=rs.getD i 0)∧Ext (fun c=>out.blk=some c) w4 w5∧Eg w5 p [zm,pz,mo,hg,g,po,nu,ra,ro,dv,rc,c,m,d,k,e] t now tab) rs.length ⟨0,rs,rfl,by omega,by omega,ho4,rfl,fun i h=>(by omega),fun i _=>rfl,Ext.refl _ _,hE4⟩ ?_
  rintro Q x w5 ⟨j,rs',rfl,rfl,hj,ho5,hlen,hdone,hrest,x5,hE5⟩
  have hon:=ho5.len
  refine cnd_d (fun h=>?_) (fun h=>?_)
  ·have hj':j<rs.length:=by omega
   have hl5:=hl4.extX x5 fun b hb h'=>dl b hb h'
   have hm5:=hm4.extX x5 fun b hb h'=>dm b hb h'
   have hI5:=On.extX hIn x5 fun b hb h'=>dI b hb h'
   have nl:=hl5.len
   refine j1 (fun (r:Int) w6=>r=(l.getD j 0:Nat)∧w6=w5) ?_ ?_
   ·refine cnd_d (fun h=>?_) (fun h=>?_)
    ·exact hl5.ix (j:=j) rfl (by omega) ⟨rfl,rfl⟩
    ·exact ⟨by rw [getD_big (by omega)];rfl,rfl⟩
   rintro r w6 ⟨rfl,rfl⟩
   have hRj:rs'.getD j 0=rs.getD j 0:=hrest j (Nat.le_refl _)
   have hRm:=hrs j hj'
   have hRlt:rs.getD j 0<M:=by
    have:=Int.emod_lt_of_pos (C j) (show (0:Int)<M by omega);omega
   have zR:sz (rs.getD j 0)≤4000:=Nat.le_trans (sz_mono (Nat.le_of_lt hRlt)) hz
   have hr:((l.getD j 0:Nat):Int)=C j%(P:Int):=by
    rw [hgl j]
    exact Int.toNat_of_nonneg (Int.emod_nonneg _ (by omega))
   have hrP:l.getD j 0<P:=by
    have:=Int.emod_lt_of_pos (C j) (show (0:Int)<P by omega);omega
   refine ho5.ix (j:=j) rfl (by omega) fun a3 u v hu k0 _ _=>⟨u,k0,?_⟩
   rw [hRj] at hu
   refine c3 (limb_DivWord hu hPW (by omega)) ?_
   rintro s4 r4 er w7 e7 ⟨-,rfl,-⟩
   rw [if_neg (by omega)]
   have hhv:=Nat.mod_lt (rs.getD j 0) (show 0<P by omega)
   have hst:=more_step m0 h2 hRm hr hc hinv1
   obtain ⟨R,hR⟩:∃R,rs.getD j 0=R:=⟨_,rfl⟩
   obtain ⟨rr,hrr⟩:∃rr,l.getD j 0=rr:=⟨_,rfl⟩
   rw [hR] at hst hhv zR hRj ⊢
   rw [hrr] at hst hrP ⊢
   obtain ⟨r6,hr6⟩:∃r6,(if rr<R%P then rr+P else rr)=r6:=⟨_,rfl⟩
   rw [hr6] at hst
   refine j1 (fun (x:Int) w8=>x=(r6:Nat)∧w8=w7) ?_ ?_
   ·refine cnd_d (fun h=>?_) (fun h=>?_)
    ·refine bnd_wu' (y:=rr+P) (by omega) (by rw [w64];omega) ⟨?_,rfl⟩
     rw [←hr6,if_pos (by omega)]
    ·refine ⟨?_,rfl⟩
     rw [←hr6,if_neg (by omega)]
   rintro x w8 ⟨rfl,rfl⟩
   have hr6b:R%P≤r6∧r6<2*P:=by rw [←hr6];split<;>omega
   refine wuSub' (a:=r6) (b:=R%P) rfl rfl hr6b.1 (by rw [w64];omega) ?_
   have zi:sz inv≤1:=sz_word (by omega)
   refine c1 (limb_MulWord (y:=r6-R%P) ((On.nt hI5).ext e7) (by rw [w64];omega) (by omega)) fun s5 w9 e9 g9=>?_
   refine c3 (limb_DivWord (On.nt g9) hPW (by have:=sz_mul inv (r6-R%P);have:=sz_word (x:=r6-R%P) (by rw [w64];omega);omega)) ?_
   rintro s6 r7 er w10 e10 ⟨-,rfl,-⟩
   rw [if_neg (by omega)]
   have e710:=(e7.trans e9).trans e10
   have ho10:=ho5.ext e710
   refine ho10.ix (j:=j) rfl (by omega) fun a4 u4 v4 hu4 k4 _ _=>⟨u4,k4,?_⟩
   rw [hRj] at hu4
   have htP:=Nat.mod_lt (inv*(r6-R%P)) (show 0<P by omega)
   refine c1 (limb_AddMul hu4 (hm5.ext e710) (y:=inv*(r6-R%P)%P) (by omega) (by omega) (by omega)) fun s7 w11 e11 g11=>?_
   have e711:=e710.trans e11
   have ho11:=ho5.ext e711
   refine ho11.set (z:=R+M*(inv*(r6-R%P)%P)) rfl (by omega) (Ow.rd g11) (fun _ c hc'=>⟨fun h'=>?_,(Ow.from_ g11 c hc').2⟩) fun w12 h12 e12=>?_
   ·have q1:=Ow.blk_le g11 c hc'
    have q2:=(ho10.lt_blk c h').2
    omega
   have hX:∀c,out.blk=some c→w0.w.heap.size≤c:=fun c hc'=>Nat.le_trans hB0 (ho11.lt_blk c hc').1
   have hE12:=(hE5.ext e711).young hE0 e12 hX
   refine bnd_wi (by omega) (by omega) ⟨rs.length-(j+1),by omega,j+1,_,by omega,rfl,by omega,h12,by simp [hlen],fun i hi=>?_,fun i hi=>?_,x5.trans (e711.any.trans e12),hE12⟩
   ·rw [set_getN (by omega)]
    by_cases h':i=j
    ·rw [if_pos h',h',hst]
    ·rw [if_neg h'];exact hdone i (by omega)
   ·rw [set_getN (by omega),if_neg (by omega)]
    exact hrest i (by omega)
  ·exact ⟨⟨rs',ho5,hlen,fun i hi=>hdone i (by omega)⟩,x5,hE5⟩
 rintro w13 ⟨⟨rs',h13,hlen,hv⟩,x13,hE13⟩
 refine rt0 ((y4.weak fun _ h=>.inl h).trans (x13.weak fun _ h=>.inr h)) ⟨rs',h13.at,hlen,hv,hE13.at⟩
theorem sq_step {low k p m:Nat} (h:Sq low (k+1) p m):∃q,Nxp p q∧low<q∧Nat.gcd q m=1∧Sq low k q (m*q):=h
set_option maxHeartbeats 3200000 in
theorem zmul_Many {a b:Sl} {xs ys:List Int} (hE:Eg w p [zm,pz,mo,hg,g,po,nu,ra,ro,dv,rc,c,m,d,k,e] t now tab) (ha:Ri w a xs) (hb:Ri w b ys) (hs:Shk xs ys) (hbd:bd xs ys≤4300) (h0:0≤now) (h1:now≤1000000000000000000):
  Ct Pg F.zmul_Engine_Many [.pointer p,a.v,b.v] w (fun k=>k=t) [.one .slice] fun (s:Sl) w'=>Rq (dg W64) w' s (pmt xs ys)∧Eg w' p [zm,pz,mo,hg,g,po,nu,ra,ro,dv,rc,c,m,d,k,e] t now tab:=by
 refine Ct.zmul_Engine_Many ?_
 unfold Sh.zmul_Engine_Many
 obtain ⟨l1,l2,l3⟩:=id hs
 refine znorms ha.here hb.here hs.sht fun s u w3 e3 hA hB=>?_
 have hE3:=hE.here.ext e3
 have n1:=hA.len
 have n2:=hB.len
 have t1':=ptrim_len xs
 have t2':=ptrim_len ys
 refine or_empty n1 n2 ?_
 refine cnd_d (fun hz0=>?_) (fun hz0=>?_)
 ·refine rt1 (c:=.slice) Sl.nil e3.any ⟨?_,hE3.at⟩
  rw [pmt_none hz0]
  exact (Oq.nil _ _ 0 T.api_Int).rq
 have hst:=hs.trim
 have hpm:∀k,(pm (ptrim xs) (ptrim ys)).getD k 0=(pm xs ys).getD k 0:=fun k=>pm_congr (fun i=>ptrim_get _ _) (fun i=>ptrim_get _ _) k
 have hbt:=bd_trim xs ys
 have hcb:∀i,bl ((pm (ptrim xs) (ptrim ys)).getD i 0).natAbs≤bd xs ys:=fun i=>by
  have:=pm_bound (ptrim xs) (ptrim ys) i
  unfold bd
  rw [if_neg hz0]
  rw [hgt_trim,hgt_trim] at this
  exact this
 obtain ⟨X,hX⟩:∃X,ptrim xs=X:=⟨_,rfl⟩
 obtain ⟨Y,hY⟩:∃Y,ptrim ys=Y:=⟨_,rfl⟩
 rw [hX] at hA n1 t1' hz0 hst hpm hcb hbt
 rw [hY] at hB n2 t2' hz0 hst hpm hcb hbt
 refine bnd_wi (by omega) (by omega) (bnd_wi (by omega) (by omega) ?_)
 obtain ⟨N,hN⟩:∃N,N=X.length+Y.length-1:=⟨_,rfl⟩
 refine mk_pr (N:=N) (by omega) (by omega) fun out w4 hO e4=>?_
 refine c1 (limb_One (y:=1) (by decide)) fun s3 w5 e5 h5=>?_
 have e35:=e4.trans e5
 have hE5:=hE3.ext e35
 obtain ⟨bb,hbb⟩:∃bb,bd xs ys=bb:=⟨_,rfl⟩
 rw [hbb] at hbd hcb hbt
 refine j1 (fun (m1:Sl) w13=>∃(M:Nat) (rs:List Nat),Nt w13 m1 M∧bb+2≤bl M∧0<M∧sz M≤80∧Opr w13 w3.w.heap.size out rs∧rs.length=N∧(∀i,i<N→((rs.getD i 0:Nat):Int)=(pm X Y).getD i 0%(M:Int))∧Xt1 t w3 w13∧Eg w13 p [zm,pz,mo,hg,g,po,nu,ra,ro,dv,rc,c,m,d,k,e] t now tab) ?_ ?_
 ·refine lp2 (fun Q (ms:Sl) (pi:Int) w6=>∃(j M P:Nat) (rs:List Nat),pi=P∧Q=72-j∧j≤72∧Sq 2305843009213693952 (72-j) P M∧P≤4611686018427387904∧2^(61*j)≤M∧M≤2^(62*j)∧w4.w.heap.size≤w6.w.heap.size∧On w6 w4.w.heap.size ms M∧Opr w6 w3.w.heap.size out rs∧rs.length=N∧(∀i,i<N→((rs.getD i 0:Nat):Int)=(pm X Y).getD i 0%(M:Int))∧Xt1 t w3 w6∧Eg w6 p [zm,pz,mo,hg,g,po,nu,ra,ro,dv,rc,c,m,d,k,e] t now tab) 72 ⟨0,1,4611686018427387904,_,rfl,rfl,by omega,sq72,Nat.le_refl _,by simp,by simp,e5.size,h5,hO.ext e5,by simp,fun i hi=>by rw [zeros_get];simp,e35.any,hE5⟩ ?_
  rintro Q ms pi w6 ⟨j,M,P,rs,rfl,rfl,hj,hsq,hP,hlo,hhi,sz6,hm,ho,hlen,hrs,x6,hE6⟩
  have hM0:0<M:=Nat.lt_of_lt_of_le (Nat.two_pow_pos _) hlo
  have hszM:sz M≤72:=by
   have h':M<2^(62*j+1):=Nat.lt_of_le_of_lt hhi (Nat.pow_lt_pow_right (by decide) (by omega))
   have:=sz_bits h'
   omega
  refine c1 (api_Bits (On.nt hm) (by omega)) ?_
  rintro r w7 e7 rfl
  have hA7:=hA.extT hE3.tz (x6.trans e7.any) (he:=ty_Int)
  have hB7:=hB.extT hE3.tz (x6.trans e7.any) (he:=ty_Int)
  refine c1 (zmul_Bound hA7.rq.ri hB7.rq.ri hst) ?_
  rintro r w8 e8 rfl
  rw [hbt]
  refine bnd_wi (by omega) (by omega) ?_
  obtain ⟨Z,hZ⟩:∃Z:Nat,Z=4608:=⟨_,rfl⟩
  have hbm:bl M≤Z:=bl_pow (by have:=lt_sz M;rw [show W64^sz M=2^(64*sz M) by rw [Nat.pow_mul]] at this;exact Nat.lt_of_lt_of_le this (Nat.pow_le_pow_right (by decide) (by omega)))
  have e78:=e7.trans e8
  have hE8:=hE6.ext e78
  have hm8:=On.ext hm e78
  have ho8:=ho.ext e78
  have x8:Xt1 t w3 w8:=x6.trans e78.any
  refine cnd_d (fun h=>?_) (fun h=>?_)
  ·have hbM:bl M<bb+2:=by omega
   have hj72:j<72:=by
    rcases Nat.lt_or_ge j 72 with h'|h'
    ·exact h'
    ·exfalso
     have h6:=bl_lt M
     have h7:2^bl M≤2^(61*j):=Nat.pow_le_pow_right (by decide) (by omega)
     omega
   obtain ⟨q,hq,hlow,hgc,hsq'⟩:=sq_step (k:=71-j) (show Sq 2305843009213693952 (71-j+1) P M by rw [show 71-j+1=72-j by omega];exact hsq)
   have hqP:=hq.1
   have hisP:=hq.2.1
   have hodd:=isP_odd hisP (by omega)
   refine c1 (zmul_before hE8.gl hP hq) ?_
   rintro r w9 e9 rfl
   have hE9:=hE8.ext e9
   have hA9:=hA.extT hE3.tz (x8.trans e9.any) (he:=ty_Int)
   have hB9:=hB.extT hE3.tz (x8.trans e9.any) (he:=ty_Int)
   refine t1 hE9.tz (zmul_modulo (P:=q) hE9 hA9.rq.ri hB9.rq.ri hst (by omega) (by omega) hodd hisP) ?_
   rintro s4 w10 x10 ⟨⟨lr,hlr,nlr,glr⟩,hE10⟩
   have hT9:=hE9.tz
   have hm10:=On.extT (On.ext hm8 e9) hT9 x10
   have ho10:=(ho8.ext e9).extT hT9 x10
   have x310:Xt1 t w3 w10:=(x8.trans e9.any).trans x10
   have hout:∀c,out.blk=some c→c<w4.w.heap.size:=fun c hc=>(hO.lt_blk c hc).2
   have s49:w4.w.heap.size≤w9.w.heap.size:=Nat.le_trans sz6 (e78.trans e9).size
   have dm:∀c,ms.blk=some c→out.blk≠some c:=fun c hc h'=>by
    have:=Ow.blk_le hm10 c hc
    have:=hout c h'
    omega
   refine cl_of (zmul_more (w0:=w3) (C:=fun i=>(pm X Y).getD i 0) (P:=q) hE10 hE3 (Nat.le_refl _) ho10 (On.nt hm10) hlr.rd dm (fun c hc h'=>?_) (fun i hi=>hrs i (by omega)) glr hM0 (by omega) (by omega) (by omega) hgc (by omega) h0 h1) (fun c hc=>hc.elim (fun h'=>by subst h';exact hE10.V) fun h'=>ho10.V c h') ?_
   ·have:=Ow.blk_le hlr c hc
    have:=hout c h'
    omega
   rintro w11 x11 ⟨rs',ho11,hlen',hrs',hE11⟩
   have hm11:=On.extX hm10 x11 fun b hb h'=>h'.elim (fun h'=>by subst h';exact Ow.neT hm10 hE10.tz hb) (dm b hb)
   have x311:Xt1 t w3 w11:=Ext.mineT x310 x11 fun c hc=>hc.elim .inl fun h'=>.inr (ho10.lt_blk c h').1
   refine c1 (limb_MulWord (y:=q) (On.nt hm11) (by rw [w64];omega) (by omega)) fun s5 w12 e12 h12=>?_
   have s411:w4.w.heap.size≤w11.w.heap.size:=Nat.le_trans s49 (Nat.le_trans x10.size x11.size)
   refine ⟨72-(j+1),by omega,j+1,M*q,q,rs',rfl,rfl,by omega,by rw [show 72-(j+1)=71-j by omega];exact hsq',by omega,?_,?_,Nat.le_trans s411 e12.size,h12.less s411,ho11.ext e12,by omega,fun i hi=>hrs' i (by omega),x311.trans e12.any,hE11.ext e12⟩
   ·rw [Nat.mul_add,Nat.mul_one,Nat.pow_add]
    exact Nat.mul_le_mul hlo (by omega)
   ·rw [Nat.mul_add,Nat.mul_one,Nat.pow_add]
    exact Nat.mul_le_mul hhi (by omega)
  ·exact ⟨M,rs,On.nt hm8,by omega,hM0,by omega,ho8,hlen,hrs,x8,hE8⟩
 rintro m1 w13 ⟨M,rs,hm,hbM,hM0,hzM,ho,hlen,hrs,x13,hE13⟩
 have hon:=ho.len
 have hback:∀i,2*((pm X Y).getD i 0).natAbs<M:=fun i=>by
  have q1:=bl_iff (hcb i)
  have q2:=bl_le hM0
  have q3:2^(bb+1)≤2^(bl M-1):=Nat.pow_le_pow_right (by decide) (by omega)
  rw [Nat.pow_succ] at q3
  omega
 refine mk_q (D:=dg W64) (dg_zero _) (N:=N) (by omega) (by omega) fun s6 w14 h14 e14=>?_
 refine j0 (fun w21=>(∃l,Oq (dg W64) w21 w13.w.heap.size T.api_Int s6 l∧l.length=N∧∀i,l.getD i 0=(pm X Y).getD i 0)∧Xt1 t w13 w21∧Eg w21 p [zm,pz,mo,hg,g,po,nu,ra,ro,dv,rc,c,m,d,k,e] t now tab) ?_ ?_
 ·refine lp1 (fun Q (x:Int) w15=>∃j l,x=(j:Nat)∧Q=N-j∧j≤N∧Oq (dg W64) w15 w13.w.heap.size T.api_Int s6 l∧l.length=N∧(∀i,i<j→l.getD i 0=(pm X Y).getD i 0)∧Xt1 t w13 w15∧Eg w15 p [zm,pz,mo,hg,g,po,nu,ra,ro,dv,rc,c,m,d,k,e] t now tab) N ⟨0,_,rfl,by omega,by omega,h14,by simp,fun i h=>(by omega),e14.any,hE13.ext e14⟩ ?_
  rintro Q x w15 ⟨j,l,rfl,rfl,hj,h15,hl,hv,x15,hE15⟩
  refine cnd_d (fun h=>?_) (fun h=>?_)
  ·have hj':j<N:=by omega
   have ho15:=ho.extT hE13.tz x15
   have hm15:=hm.extT hE13.tz x15
   refine ho15.ix (j:=j) rfl (by omega) fun a1 uu vv hu _ k0 k1=>⟨uu,k0,vv,k1,?_⟩
   intro w16 e16 w17 e17
   have e157:=(e16.trans e17).drew
   have hE17:=hE15.ext e157
   refine hE17.down2 fun a2 q2 a3 q3 E2 H2=>?_
   have hRm:=hrs j hj'
   have hRlt:rs.getD j 0<M:=by
    have:=Int.emod_lt_of_pos ((pm X Y).getD j 0) (show (0:Int)<M by omega);omega
   have zR:sz (rs.getD j 0)≤80:=Nat.le_trans (sz_mono (Nat.le_of_lt hRlt)) hzM
   refine tM hE17.tz (modn_Signed E2 (hu.ext e157) (hm15.ext e157) (by omega) (by omega) h0 h1) ?_
   rintro r3 r4 er w18 x18 ⟨-,hS,E2'⟩
   obtain ⟨-,hIo⟩:=hS hM0
   rw [sgd_back (hback j) hRm] at hIo
   have hE18:=hE17.re x18 E2'
   refine hldC (H2.extT x18).tail ?_
   have y18:Xt1 t w15 w18:=e157.any.trans x18
   have h18:=h15.extT hE15.tz ty_Int y18
   refine h18.set (z:=(pm X Y).getD j 0) rfl (by omega) hIo.el (fun _ c hc=>⟨fun h'=>?_,(Ow.from_ hIo.1 c hc).2⟩) fun w20 h20 e20=>?_
   ·have q1:=Ow.blk_le hIo.1 c hc
    have q2:=(h15.lt_blk c h').2
    have q3:=e157.size
    omega
   have hX:∀c,s6.blk=some c→w13.w.heap.size≤c:=fun c hc=>(h18.lt_blk c hc).1
   have hE20:=hE18.young hE13 e20 hX
   refine bnd_wi (by omega) (by omega) ⟨N-(j+1),by omega,j+1,_,by omega,rfl,by omega,h20,by simp [hl],fun i hi=>?_,Ext.mineT (x15.trans y18) e20 fun c hc=>.inr (hX c hc),hE20⟩
   rw [setZ_get (by omega)]
   by_cases h':i=j
   ·rw [if_pos h',h']
   ·rw [if_neg h'];exact hv i (by omega)
  ·refine ⟨⟨l,h15,hl,fun i=>?_⟩,x15,hE15⟩
   rcases Nat.lt_or_ge i j with hi|hi
   ·exact hv i hi
   ·rw [getZ_big (by omega),pm_big (by omega)]
 rintro w21 ⟨⟨l,h21,hl,hv⟩,x21,hE21⟩
 refine c1 (polyz_Norm h21.rq.ri (by omega) fun i=>?_) fun s7 w22 e22 h22=>?_
 ·rw [hv i]
  have:=sz_bits (bl_iff (hcb i))
  omega
 rw [pm_done (a:=xs) (b:=ys) (l:=l) fun k=>by rw [hv k,hpm k]] at h22
 exact rt1 (c:=.slice) _ (((e3.any.trans x13).trans x21).trans e22.any) ⟨h22.rq.at,(hE21.ext e22).at⟩
end
end Go.Proofs.YtjhfalgmgagdhaaGreatDoor.Zg
end

section
namespace Go.Proofs.YtjhfalgmgagdhaaGreatDoor.Zg
open Go.RowKit
theorem Eg.down6 {w:TW} {p:Option Addr} {b1 b2 b3 b4 b5 b6 t:Nat} {bs:List Nat} {now:Int} {tab:List Int} (h:Eg w p (b1::b2::b3::b4::b5::b6::bs) t now tab) {K:Addr→Option Addr→Addr→Option Addr→Addr→Option Addr→Addr→Option Addr→Addr→Option Addr→Addr→Option Addr→Prop} (hK:∀a1 q1 a2 q2 a3 q3 a4 q4 a5 q5 a6 q6,Eg w q6 bs t now tab→HcC w t [(a6,.pointer q6),(a5,.pointer q5),(a4,.pointer q4),(a3,.pointer q3),(a2,.pointer q2),(a1,.pointer q1)]→K a1 q1 a2 q2 a3 q3 a4 q4 a5 q5 a6 q6):nck p fun a1=>ldc (.ptr) w a1 fun (q1:Option Addr)=>nck q1 fun a2=>ldc (.ptr) w a2 fun (q2:Option Addr)=>nck q2 fun a3=>ldc (.ptr) w a3 fun (q3:Option Addr)=>nck q3 fun a4=>ldc (.ptr) w a4 fun (q4:Option Addr)=>nck q4 fun a5=>ldc (.ptr) w a5 fun (q5:Option Addr)=>nck q5 fun a6=>ldc (.ptr) w a6 fun (q6:Option Addr)=>K a1 q1 a2 q2 a3 q3 a4 q4 a5 q5 a6 q6:=
 h.downC fun q1 E1 h1 n1=>E1.downC fun q2 E2 h2 n2=>E2.downC fun q3 E3 h3 n3=>E3.downC fun q4 E4 h4 n4=>E4.downC fun q5 E5 h5 n5=>E5.downC fun q6 E6 h6 n6=>hK _ q1 _ q2 _ q3 _ q4 _ q5 _ q6 E6 (.cons h6 n6 (.cons h5 n5 (.cons h4 n4 (.cons h3 n3 (.cons h2 n2 (.cons h1 n1 (.nil _)))))))
theorem polyz_NewN:NewN 15 F.polyz_New:=fun {t w}=>Ct.polyz_New (new_stepN modn_NewN)
theorem zmul_NewN:NewN 16 F.zmul_New:=fun {t w}=>Ct.zmul_New (new_stepN polyz_NewN)
abbrev Zg16 (w:TW) (p:Option Addr) (t:Nat) (tab:List Int):Prop:=∃zm pz mo hg g po nu ra ro dv rc c m d k e,Eg w p [zm,pz,mo,hg,g,po,nu,ra,ro,dv,rc,c,m,d,k,e] t 0 tab
theorem zmul_mk {w:TW} {t:HL I11} (hG:Gl w) {K:Option Addr→TW→Prop} (hK:∀p w' b tab,Ext none_ w w'→Zg16 w' p b tab→w.w.heap.size≤b→p.isNone=false→K p w'):cl Pg F.zmul_New [.agg (encs I11 t).toArray] w [.one .ptr] K:=by
 refine zmul_NewN.mk hG (fun p w' bs b tab e hl hE hb hp=>?_) (by decide)
 match bs,hl with
 | [zm,pz,mo,hg,g,po,nu,ra,ro,dv,rc,c,m,d,k,e'],_=>exact hK p w' b tab e ⟨_,_,_,_,_,_,_,_,_,_,_,_,_,_,_,_,hE⟩ hb hp
section
variable {w w':TW} {p:Option Addr} {t:Nat} {tab:List Int}
theorem Zg16.ext (h:Zg16 w p t tab) (e:Ext none_ w w'):Zg16 w' p t tab:=by
 obtain ⟨_,_,_,_,_,_,_,_,_,_,_,_,_,_,_,_,h⟩:=h
 exact ⟨_,_,_,_,_,_,_,_,_,_,_,_,_,_,_,_,h.ext e⟩
theorem Zg16.tz (h:Zg16 w p t tab):Tz w t:=by
 obtain ⟨_,_,_,_,_,_,_,_,_,_,_,_,_,_,_,_,h⟩:=h
 exact h.tz
end
theorem keep_IntE {D:Nat→List Nat} {w:TW} {a b:Sl × Bool} {z:Int} (ha:El D w a z) (hb:El D w b z):Ct Pg F.zigguratkeep_Int [.agg #[a.1.v,.bool a.2],.agg #[b.1.v,.bool b.2]] w none_ [.one .bool] fun (r:Bool) _=>r=true:=by
 refine Ct.zigguratkeep_Int ?_
 unfold Sh.zigguratkeep_Int
 intro w1 e1 w2 e2
 have e:=e1.trans e2
 refine j1 (fun (r:Bool) w'=>r=true∧Ext none_ w.here w') ?_ ?_
 ·refine cnd_t (by rw [ha.2,hb.2];simp) ?_
  refine c1 (keep_Same (ha.1.here.ext e) (hb.1.here.ext e)) ?_
  rintro r w3 e3 rfl
  exact ⟨rfl,e.trans e3⟩
 rintro r w' ⟨rfl,e'⟩
 exact rt1 (c:=.bool) _ e' rfl
theorem keep_Ints {D:Nat→List Nat} {w:TW} {a b:Sl} {zs:List Int} (ha:Rq D w a zs) (hb:Rq D w b zs) (hn:zs.length≤1099511627776):Ct Pg F.zigguratkeep_Ints [a.v,b.v] w none_ [.one .bool] fun (r:Bool) _=>r=true:=by
 refine Ct.zigguratkeep_Ints ?_
 unfold Sh.zigguratkeep_Ints
 have na:=ha.len
 have nb:=hb.len
 refine cnd_f (by rw [na,nb];simp) ?_
 refine j0 (fun w'=>Ext none_ w.here w') ?_ ?_
 ·refine lp1 (fun m (x:Int) w1=>∃j:Nat,x=j∧m=zs.length-j∧j≤zs.length∧Ext none_ w.here w1) zs.length ⟨0,rfl,by omega,by omega,Ext.refl _ _⟩ ?_
  rintro m x w1 ⟨j,rfl,rfl,hj,e1⟩
  refine cnd_d (fun h=>?_) (fun h=>e1)
  have e1d:=e1.drew
  refine (ha.here.ext e1d).ix (j:=j) rfl (by omega) fun a1 t1 h1 _ q0 q1=>ldp q0 q1 ?_
  refine (hb.here.ext e1d).ix (j:=j) rfl (by omega) fun a2 t2 h2 _ r0 r1=>ldp r0 r1 ?_
  refine c1 (keep_IntE h1 h2) ?_
  rintro r w2 e2 rfl
  exact cnd_f rfl (bnd_wi (by omega) (by omega) ⟨zs.length-(j+1),by omega,j+1,by omega,rfl,by omega,e1d.trans e2⟩)
 intro w' e
 exact rt1 (c:=.bool) _ e rfl
theorem keep_CopyInts {D:Nat→List Nat} {w:TW} {a:Sl} {zs:List Int} (ha:Rq D w a zs) (hl:zs.length≤65536) (hD:∀i,(D (zs.getD i 0).natAbs).length≤1073741824):Ct Pg F.zigguratkeep_CopyInts [a.v] w none_ [.one .slice] fun (s:Sl) w'=>Rq D w' s zs:=by
 refine Ct.zigguratkeep_CopyInts ?_
 unfold Sh.zigguratkeep_CopyInts
 have na:=ha.len
 refine j1 (fun (out:Sl) w5=>Rq D w5 out zs∧Ext none_ w.here w5) ?_ ?_
 ·refine lp2 (fun m (out:Sl) (x:Int) w1=>∃j:Nat,x=j∧m=zs.length-j∧j≤zs.length∧Oq D w1 w.here.w.heap.size T.api_Int out (zs.take j)∧Ext none_ w.here w1) zs.length ⟨0,rfl,by omega,by omega,by simpa using Oq.nil D _ _ _,Ext.refl _ _⟩ ?_
  rintro m out x w1 ⟨j,rfl,rfl,hj,ho,e1⟩
  refine cnd_d (fun h=>?_) (fun h=>?_)
  ·refine (ha.here.ext e1).ix (j:=j) rfl (by omega) fun a1 t1 h1 _ q0 q1=>ldp q0 q1 ?_
   have hc:Ct Pg F.zigguratkeep_CopyInt [.agg #[t1.1.v,.bool t1.2]] w1 none_ [.agg [.slice,.bool]] fun (s:Sl) (n:Bool) w'=>El D w' (s,n) (zs.getD j 0)∧∀c,s.blk=some c→w1.w.heap.size≤c∧c<w'.w.heap.size:=by
    refine Ct.zigguratkeep_CopyInt ?_
    unfold Sh.zigguratkeep_CopyInt
    intro v1 f1 v2 f2
    have f:=(f1.trans f2).drew
    have hcp:Ct Pg F.zigguratkeep_Copy [t1.1.v] v2.drew none_ [.one .slice] fun (s:Sl) w'=>Ow w' v2.drew.w.heap.size s (D (zs.getD j 0).natAbs):=by
     refine Ct.zigguratkeep_Copy ?_
     unfold Sh.zigguratkeep_Copy
     exact (h1.1.here.ext f).here.copy (B:=v2.drew.w.heap.size) (Nat.le_refl _) (Nat.le_trans (hD j) (by decide)) fun s w' h' e' _=>rt1 (c:=.slice) _ e' h'.at
    refine c1 hcp fun s v3 f3 g3=>?_
    intro v4 f4
    have g4:=g3.ext f4
    exact ⟨(s,t1.2,()),rfl,(f.trans f3).trans f4,⟨g4.at.rd,h1.2⟩,fun c hc=>⟨Nat.le_trans f.size (Ow.blk_le g3 c hc),(Ow.from_ g4 c hc).2⟩⟩
   refine cl0 hc ?_
   intro r r1 w2 e2 hr
   have hr:El D w2 (r,r1) (zs.getD j 0)∧∀c,r.blk=some c→w1.w.heap.size≤c∧c<w2.w.heap.size:=hr
   refine (ho.ext e2).push (w0:=w.here) (e1.trans e2) (by rw [List.length_take];omega) hr.1 (fun _ c hc=>⟨fun h'=>?_,(hr.2 c hc).2⟩) fun s' w' h' e' _=>?_
   ·have:=(hr.2 c hc).1
    have:=(ho.lt_blk c h').2
    omega
   ·refine bnd_wi (by omega) (by omega) ⟨zs.length-(j+1),by omega,j+1,by omega,rfl,by omega,?_,e'⟩
    rw [take_succ_getD zs (by omega)]
    exact h'
  ·obtain rfl:j=zs.length:=by omega
   rw [List.take_of_length_le (Nat.le_refl _)] at ho
   exact ⟨ho.rq,e1⟩
 rintro out w5 ⟨ho,e5⟩
 exact rt1 (c:=.slice) _ e5 ho.at
theorem Rb.raw {w:TW} {s:Sl} {zs:List Int} {n:Nat} (h:Rb w s zs n):∃D zx,Rq D w s zx∧zx.length=zs.length∧(∀i,(D (zx.getD i 0).natAbs).length≤n)∧∀{w' s'},Rq D w' s' zx→Ri w' s' zs:=by
 obtain ⟨ts,h1,h2,h3⟩:=h
 have h4:∀i,∃l:List Nat,∀h:i<ts.length,Rd w ts[i].1 l∧zs.getD i 0=if ts[i].2 then -(vl W64 l:Int) else vl W64 l:=fun i=>by
  by_cases hi:i<ts.length
  ·obtain ⟨⟨v,⟨l,hl,hv⟩,hz⟩,_⟩:=h3 i hi
   exact ⟨l,fun _=>⟨hl,by rw [hz,hv]⟩⟩
  ·exact ⟨[],fun h=>absurd h hi⟩
 obtain ⟨L,hL⟩:=Classical.axiomOfChoice h4
 refine ⟨fun k=>if k-1<ts.length then L (k-1) else [],(List.range ts.length).map fun i=>if (ts.getD i (Sl.nil,false)).2 then -((i+1:Nat):Int) else ((i+1:Nat):Int),?_⟩
 have hg:∀i,i<ts.length→((List.range ts.length).map fun i=>if (ts.getD i (Sl.nil,false)).2 then -((i+1:Nat):Int) else ((i+1:Nat):Int)).getD i 0=if (ts.getD i (Sl.nil,false)).2 then -((i+1:Nat):Int) else ((i+1:Nat):Int):=fun i hi=>by
  rw [List.getD_eq_getElem?_getD,List.getElem?_map,List.getElem?_range hi]
  rfl
 have ha:∀i (b:Bool),((if b then -((i+1:Nat):Int) else ((i+1:Nat):Int)).natAbs-1)=i:=fun i b=>by split<;>omega
 have hb:∀i (b:Bool),decide ((if b then -((i+1:Nat):Int) else ((i+1:Nat):Int))<0)=b:=fun i b=>by cases b<;>simp<;>omega
 have ht:∀i (hi:i<ts.length),ts.getD i (Sl.nil,false)=ts[i]:=fun i hi=>by simp [hi]
 refine ⟨⟨ts,h1,by simp,fun i hi=>?_⟩,by simp [h2],fun i=>?_,fun {w' s'} hr=>?_⟩
 ·rw [hg i hi,ht i hi]
  refine ⟨?_,(hb i _).symm⟩
  show Rd w ts[i].1 (if _ then _ else _)
  rw [ha,if_pos hi]
  exact (hL i hi).1
 ·by_cases hi:i<ts.length
  ·rw [hg i hi]
   show (if _ then _ else ([]:List Nat)).length≤n
   rw [ha,if_pos hi]
   rw [←(hL i hi).1.len]
   exact (h3 i hi).2
  ·rw [getZ_big (by simp;omega)]
   show (if 0-1<ts.length then L (0-1) else []).length≤n
   split
   ·rename_i h0
    rw [←(hL 0 h0).1.len]
    exact (h3 0 h0).2
   ·simp
 ·obtain ⟨us,g1,g2,g3⟩:=hr
  simp only [List.length_map,List.length_range] at g2
  refine ⟨us,g1,by omega,fun i hi=>?_⟩
  have hi':i<ts.length:=by omega
  have hd:=g3 i hi
  rw [hg i hi',ht i hi'] at hd
  obtain ⟨k1,k2⟩:=hd
  rw [hb] at k2
  have k1:Rd w' us[i].1 (if _ then _ else _):=k1
  rw [ha,if_pos hi'] at k1
  exact ⟨_,k1.nt,by rw [k2];exact (hL i hi').2⟩
theorem Rb.hgt {w:TW} {s:Sl} {zs:List Int} {n:Nat} (h:Rb w s zs n):hgt zs≤64*n:=hgt_of fun i=>by
 have h1:=h.szs i
 have h2:=bl_sz (zs.getD i 0).natAbs
 have:64*sz (zs.getD i 0).natAbs≤64*n:=Nat.mul_le_mul_left _ h1
 omega
section
variable {w:TW} {p:Option Addr} {t:Nat} {now:Int} {tab:List Int}
theorem num_Times {nu ra ro dv rc c m d k e:Nat} {a b:Sl} {na nb:Bool} {x y:Int} (hE:Eg w p [nu,ra,ro,dv,rc,c,m,d,k,e] t now tab) (ha:Iz w a na x) (hb:Iz w b nb y) (hx:sz x.natAbs≤1048576) (hy:sz y.natAbs≤1048576) (h0:0≤now) (h1:now≤1000000000000000000):
  Ct Pg F.num_Engine_Times [.pointer p,.agg #[a.v,.bool na],.agg #[b.v,.bool nb]] w (fun k=>k=t) [.agg [.slice,.bool]] fun (s:Sl) (n:Bool) w'=>Io w' w.w.heap.size s n (x*y)∧Tz w' t:=by
 refine Ct.num_Engine_Times ?_
 unfold Sh.num_Engine_Times
 intro w1 e1 w2 e2 w3 e3
 have e13:=((e1.trans e2).trans e3).drew
 have hE:=hE.here.ext e13
 have ha:=ha.here.ext e13
 have hb:=hb.here.ext e13
 refine hE.down6 fun _ _ _ _ _ _ _ _ _ _ _ _ E6 H6=>?_
 refine t1 hE.tz (mul_Mul E6 ha.abs hb.abs (by omega) (by omega) h0 (by omega)) ?_
 rintro s w4 x4 ⟨h4,E4⟩
 refine hldC (H6.extT x4).tail ?_
 have y4:Xt1 t w.here w4:=e13.any.trans x4
 refine mdd h4 fun r r1 w5 e5 hr=>?_
 refine hldC ((H6.extT x4).ext e5).tail ?_
 intro w6 e6
 have e46:=e5.trans e6
 have hv:(if (!(na == nb))=true then -((x.natAbs*y.natAbs:Nat):Int) else ((x.natAbs*y.natAbs:Nat):Int))=x*y:=by
  have hxn:=ha.neg_
  have hyn:=hb.neg_
  obtain ⟨X,hX⟩:∃X,x.natAbs=X:=⟨_,rfl⟩
  obtain ⟨Y,hY⟩:∃Y,y.natAbs=Y:=⟨_,rfl⟩
  rw [hX] at hxn ⊢
  rw [hY] at hyn ⊢
  cases na<;>cases nb<;>simp at hxn hyn ⊢<;>rw [hxn,hyn]<;>first|rw [Int.neg_mul_neg]|rw [Int.mul_neg]|rw [Int.neg_mul]
 rw [hv] at hr
 refine ⟨(_,_,()),rfl,y4.trans e46.any,((hr.ext e6).less e13.size).at,?_⟩
 obtain ⟨m',n',d',tb,hT⟩:=E4.tz.ext e46
 exact ⟨m',n',d',tb,hT.at⟩
end
end Go.Proofs.YtjhfalgmgagdhaaGreatDoor.Zg
end

section
namespace Go.Proofs.YtjhfalgmgagdhaaGreatDoor.Zg
open Go.RowKit
def Shw (a b:List Int):Prop:=Shk a b∧bd a b≤4300
theorem Shw.of {a b:List Int} (h1:a.length≤4096) (h2:b.length≤4096) (h3:hgt a+hgt b≤4280):Shw a b:=by
 refine ⟨⟨h1,h2,by omega⟩,?_⟩
 unfold bd
 split
 ·omega
 ·have:=ptrim_len a
  have:bl (min (ptrim a).length (ptrim b).length)≤13:=bl_pow (by omega)
  omega
section
variable {w:TW} {p:Option Addr} {zm pz mo hg g po nu ra ro dv rc c m d k e t:Nat} {now:Int} {tab:List Int}
theorem zmul_Times {a b:Sl} {xs ys:List Int} (hE:Eg w p [zm,pz,mo,hg,g,po,nu,ra,ro,dv,rc,c,m,d,k,e] t now tab) (ha:Ri w a xs) (hb:Ri w b ys) (hs:Shw xs ys) (h0:0≤now) (h1:now≤1000000000000000000):
  Ct Pg F.zmul_Engine_Times [.pointer p,a.v,b.v] w (fun k=>k=t) [.one .slice] fun (s:Sl) w'=>Rq (dg W64) w' s (pmt xs ys)∧Eg w' p [zm,pz,mo,hg,g,po,nu,ra,ro,dv,rc,c,m,d,k,e] t now tab:=by
 refine Ct.zmul_Engine_Times ?_
 unfold Sh.zmul_Engine_Times
 obtain ⟨l1,l2,-⟩:=id hs.1
 have k1:=ptrim_len xs
 have k2:=ptrim_len ys
 refine c1 (polyz_Deg ha.here (by omega)) ?_
 rintro r w1 e1 rfl
 refine c1 (polyz_Deg (hb.here.ext e1) (by omega)) ?_
 rintro r w2 e2 rfl
 have e12:=e1.trans e2
 have hE2:=hE.here.ext e12
 have ha2:=ha.here.ext e12
 have hb2:=hb.here.ext e12
 refine bnd_eq (y:=(((min (ptrim xs).length (ptrim ys).length:Nat):Int)-1)) (by split<;>omega) ?_
 refine bnd_wi (by omega) (by omega) ?_
 obtain ⟨r0,r1,r2,r3,r4,r5,r6,r7,r8,r9,r10,htab,hr⟩:=hE2.2.2.1
 subst htab
 refine hE2.down16 fun _ _ _ _ _ _ _ _ _ _ _ _ _ _ _ _ _ _ _ _ _ _ _ _ _ _ _ _ _ _ _ _ E16 _=>E16.ent (i:=7) rfl ?_
 refine cnd_d (fun h=>?_) (fun h=>?_)
 ·refine hE2.down fun q1 E1=>?_
  refine t1 hE2.tz (polyz_Hand E1 ha2 hb2 hs.1.sht h0 h1) ?_
  rintro s w3 x3 ⟨h3,E3⟩
  exact rt1 (c:=.slice) _ (e12.any.trans x3) ⟨h3.rq.at,(hE2.re x3 E3).at⟩
 refine hE2.down16 fun _ _ _ _ _ _ _ _ _ _ _ _ _ _ _ _ _ _ _ _ _ _ _ _ _ _ _ _ _ _ _ _ E16 _=>E16.ent (i:=8) rfl ?_
 refine cnd_d (fun h=>?_) (fun h=>?_)
 ·refine t1 hE2.tz (zmul_Kron hE2 ha2 hb2 hs.1 h0 h1) ?_
  rintro s w3 x3 ⟨h3,hE3⟩
  exact rt1 (c:=.slice) _ (e12.any.trans x3) ⟨h3.at,hE3.at⟩
 ·refine t1 hE2.tz (zmul_Many hE2 ha2 hb2 hs.1 hs.2 h0 h1) ?_
  rintro s w3 x3 ⟨h3,hE3⟩
  exact rt1 (c:=.slice) _ (e12.any.trans x3) ⟨h3.at,hE3.at⟩
def s1v (s:Sl):List Value:=[s.v]
theorem s1v_len (s:Sl):(s1v s).length=1:=rfl
theorem s1v_map (l:List Sl):l.flatMap s1v=l.map Sl.v:=by
 induction l with
 | nil=>rfl
 | cons x l ih=>rw [List.flatMap_cons,ih];rfl
def Rz (w:TW) (s:Sl) (zss:List (List Int)):Prop:=∃ss:List Sl,Rdv w 1 s (ss.flatMap s1v)∧ss.length=zss.length∧∀i (h:i<ss.length),Ri w ss[i] (zss.getD i [])
theorem Rz.ext {w w':TW} {s:Sl} {zss:List (List Int)} (h:Rz w s zss) (e:Ext none_ w w'):Rz w' s zss:=by
 obtain ⟨ss,h1,h2,h3⟩:=h
 exact ⟨ss,h1.extN e,h2,fun i hi=>(h3 i hi).ext e⟩
theorem Rz.here {w:TW} {s:Sl} {zss:List (List Int)} (h:Rz w s zss):Rz w.here s zss:=by
 obtain ⟨ss,h1,h2,h3⟩:=h
 exact ⟨ss,h1.here,h2,fun i hi=>(h3 i hi).here⟩
theorem Rz.extT {w w':TW} {s:Sl} {zss:List (List Int)} {t:Nat} (h:Rz w s zss) (hT:Tz w t) (e:Xt1 t w w'):Rz w' s zss:=by
 obtain ⟨ss,h1,h2,h3⟩:=h
 refine ⟨ss,?_,h2,fun i hi=>(h3 i hi).extT hT e⟩
 rw [s1v_map] at h1 ⊢
 exact h1.extT (sl_ne ss) hT e
theorem Rz.len {w:TW} {s:Sl} {zss:List (List Int)} (h:Rz w s zss):s.n=zss.length:=by
 obtain ⟨ss,h1,h2,_⟩:=h
 rw [h1.lenk s1v_len (by decide),h2]
theorem Rz.cut {w:TW} {s:Sl} {zss:List (List Int)} (h:Rz w s zss) {lo hi:Nat} (h1:lo≤hi) (h2:hi≤zss.length):Rz w (s.cut lo hi 1) ((zss.take hi).drop lo):=by
 obtain ⟨ss,g1,g2,g3⟩:=h
 refine ⟨_,g1.cutk s1v_len (by decide) h1 (by omega),by simp [g2],fun i hi'=>?_⟩
 simp only [List.length_drop,List.length_take] at hi'
 have e1:((zss.take hi).drop lo).getD i []=zss.getD (lo+i) []:=by
  simp only [List.getD_eq_getElem?_getD,List.getElem?_drop,List.getElem?_take]
  rw [if_pos (by omega)]
 rw [e1]
 simp only [List.getElem_drop,List.getElem_take]
 exact g3 (lo+i) (by omega)
theorem Rz.one {w:TW} {s:Sl} {zs:List Int} {zss:List (List Int)} (h:Rz w s (zs::zss)) {K:Sl→Prop} (hK:∀u,Ri w u zs→K u):ixa s 0 1 fun a=>ldc (.slice) w a fun (v:Sl)=>K v:=by
 obtain ⟨ss,h1,h2,h3⟩:=h
 have h0:0<ss.length:=by rw [h2];simp
 refine h1.atk s1v_len (by decide) (i:=0) (j:=0) rfl h0 fun a ha=>?_
 have:=ha 0 (by decide)
 have e:a.add 0=a:=if_pos rfl
 exact ⟨ss[0],(congrArg w.w.cell? e).symm.trans this,hK _ (h3 0 h0)⟩
abbrev AllAt (zss:List (List Int)) (r:List Int) (p:Option Addr) (bs:List Nat) (t:Nat) (now:Int) (tab:List Int):Prop:=∀{w:TW} {l:Sl},Eg w p bs t now tab→Rz w l zss→Ct Pg F.zmul_Engine_All [.pointer p,l.v] w (fun k=>k=t) [.one .slice] fun (s:Sl) w'=>Rq (dg W64) w' s r∧Eg w' p bs t now tab
theorem all_one {xs:List Int} (h1:xs.length≤65536) (h2:hgt xs≤1000000):AllAt [xs] (ptrim xs) p [zm,pz,mo,hg,g,po,nu,ra,ro,dv,rc,c,m,d,k,e] t now tab:=by
 intro w l hE hl
 refine Ct.zmul_Engine_All ?_
 unfold Sh.zmul_Engine_All
 have n:=hl.len
 refine cnd_f (by rw [n];rfl) (cnd_t (by rw [n];rfl) ?_)
 refine hl.here.one fun u hu=>?_
 refine c1 (polyz_Norm hu (by omega) fun i=>?_) fun s w3 e3 h3=>?_
 ·have:=sz_bits (bl_iff (hgt_le (l:=xs) i));omega
 exact rt1 (c:=.slice) _ e3.any ⟨h3.rq.at,(hE.here.ext e3).at⟩
theorem all_two {zss:List (List Int)} {r1 r2:List Int} {h:Nat} (hh:h=zss.length/2) (hn:2≤zss.length) (hn2:zss.length≤1000) (i1:AllAt (zss.take h) r1 p [zm,pz,mo,hg,g,po,nu,ra,ro,dv,rc,c,m,d,k,e] t now tab) (i2:AllAt (zss.drop h) r2 p [zm,pz,mo,hg,g,po,nu,ra,ro,dv,rc,c,m,d,k,e] t now tab) (hs:Shw r1 r2) (h0:0≤now) (h1:now≤1000000000000000000):AllAt zss (pmt r1 r2) p [zm,pz,mo,hg,g,po,nu,ra,ro,dv,rc,c,m,d,k,e] t now tab:=by
 intro w l hE hl
 refine Ct.zmul_Engine_All ?_
 unfold Sh.zmul_Engine_All
 have n:=hl.len
 have hcap:l.n≤l.c:=by
  obtain ⟨ss,g1,_⟩:=hl
  exact g1.2.1
 refine cnd_f (by simp;omega) (cnd_f (by simp;omega) ?_)
 refine divNi (x:=zss.length) (y:=2) (by omega) rfl (by omega) (by omega) ?_
 rw [←hh]
 refine slc_of (l:=0) (h:=h) rfl rfl (by omega) (by omega) ?_
 refine slc_of (l:=h) (h:=l.n) rfl rfl (by omega) (by omega) ?_
 have c1':=hl.here.cut (lo:=0) (hi:=h) (by omega) (by omega)
 have c2':=hl.here.cut (lo:=h) (hi:=zss.length) (by omega) (by omega)
 rw [List.drop_zero] at c1'
 rw [List.take_of_length_le (Nat.le_refl _)] at c2'
 have ed:Ext none_ w.here w.here.drew:=(Ext.refl _ _).drew
 have hEd:=hE.here.ext ed
 refine t1 hEd.tz (i1 hEd (c1'.ext ed)) ?_
 rintro s3 w4 x4 ⟨h3,hE4⟩
 have c4:=(c2'.ext ed).extT hEd.tz x4
 rw [←n] at c4
 refine t1 hE4.tz (i2 hE4 c4) ?_
 rintro s4 w5 x5 ⟨h4,hE5⟩
 refine t1 hE5.tz (zmul_Times hE5 (h3.ri.extT hE4.tz x5) h4.ri hs h0 h1) ?_
 rintro s5 w6 x6 ⟨h5,hE6⟩
 exact rt1 (c:=.slice) _ (((ed.any.trans x4).trans x5).trans x6) ⟨h5.at,hE6.at⟩
theorem all_none {l:Sl} (hE:Eg w p [zm,pz,mo,hg,g,po,nu,ra,ro,dv,rc,c,m,d,k,e] t now tab) (hl:l.n=0):Ct Pg F.zmul_Engine_All [.pointer p,l.v] w (fun k=>k=t) [.one .slice] fun (s:Sl) w'=>Rq (dg W64) w' s [1]∧Eg w' p [zm,pz,mo,hg,g,po,nu,ra,ro,dv,rc,c,m,d,k,e] t now tab:=by
 refine Ct.zmul_Engine_All ?_
 unfold Sh.zmul_Engine_All
 refine cnd_t (by rw [hl];rfl) ?_
 refine cl0 (num_Of (n:=1) (by decide) (by decide)) ?_
 intro r r1 w1 e1 hr
 have hr:Io w1 w.here.w.heap.size r r1 1:=hr
 refine one_row hr.el fun b w2 h2 e2=>?_
 exact rt1 (c:=.slice) ⟨some ⟨b,0,none⟩,1,1⟩ (e1.trans e2).any ⟨h2.at,((hE.here.ext e1).ext e2).at⟩
theorem pwz_nm (xs:List Int):∀n,Nm (pwz xs n)
 | 0=>fun z h=>by simp [pwz] at h;omega
 | n+1=>pmt_nm _ _
theorem pmt_one {a:List Int} (h:Nm a):pmt a [1]=a:=(pmt_nm _ _).ext h fun i=>by
 rw [pmt_get,pm_comm,pm,pm,addz_get]
 simp only [List.getD_eq_getElem?_getD,List.getElem?_map]
 cases a[i]?<;>cases i<;>simp
theorem pwz_add (xs:List Int) (a:Nat):∀b,pmt (pwz xs a) (pwz xs b)=pwz xs (a+b)
 | 0=>pmt_one (pwz_nm xs a)
 | b+1=>by
  show pmt (pwz xs a) (pmt (pwz xs b) xs)=pmt (pwz xs (a+b)) xs
  rw [←pmt_assoc,pwz_add xs a b]
theorem pwz_1 {xs:List Int} (h:Nm xs):pwz xs 1=xs:=by
 show pmt [1] xs=xs
 rw [pmt_comm]
 exact pmt_one h
theorem zmul_Pow {a:Sl} {xs:List Int} {n:Int} (hE:Eg w p [zm,pz,mo,hg,g,po,nu,ra,ro,dv,rc,c,m,d,k,e] t now tab) (ha:Ri w a xs) (l1:xs.length≤5) (l2:hgt xs≤128) (hn:n≤8) (h0:0≤now) (h1:now≤1000000000000000000):
  Ct Pg F.zmul_Engine_Pow [.pointer p,a.v,.int .i64 n] w (fun k=>k=t) [.one .slice] fun (s:Sl) w'=>Rq (dg W64) w' s (pwz (ptrim xs) n.toNat)∧Eg w' p [zm,pz,mo,hg,g,po,nu,ra,ro,dv,rc,c,m,d,k,e] t now tab:=by
 refine Ct.zmul_Engine_Pow ?_
 unfold Sh.zmul_Engine_Pow
 refine cl0 (num_Of (n:=1) (by decide) (by decide)) ?_
 intro r r1 w1 e1 hr
 have hr:Io w1 w.here.w.heap.size r r1 1:=hr
 refine one_row hr.el fun b w2 h2 e2=>?_
 have e12:=e1.trans e2
 refine c1 (polyz_Norm (ha.here.ext e12) (by omega) fun i=>?_) fun s w3 e3 h3=>?_
 ·have:=sz_bits (bl_iff (hgt_le (l:=xs) i));omega
 have e13:=e12.trans e3
 have k1:(ptrim xs).length≤5:=Nat.le_trans (ptrim_len xs) l1
 have k2:hgt (ptrim xs)≤128:=by rw [hgt_trim];exact l2
 have hX:Nm (ptrim xs):=Nm.trim xs
 obtain ⟨X,hXd⟩:∃X,ptrim xs=X:=⟨_,rfl⟩
 rw [hXd] at h3 k1 k2 hX ⊢
 obtain ⟨N,hN⟩:∃N:Nat,N=n.toNat:=⟨_,rfl⟩
 rw [←hN]
 refine bnd_eq (y:=n) (by rw [if_neg (by omega)]) ?_
 refine bnd_eq (y:=(N:Int)) (by split<;>omega) ?_
 have hok:=pwz_ok k1 k2
 refine j1 (fun (out:Sl) w9=>Rq (dg W64) w9 out (pwz X N)∧Xt1 t w.here w9∧Eg w9 p [zm,pz,mo,hg,g,po,nu,ra,ro,dv,rc,c,m,d,k,e] t now tab) ?_ ?_
 ·refine lp3 (fun M (a1:Sl) (x:Int) (out:Sl) w4=>∃i e1 e2:Nat,x=i∧i=M∧Rq (dg W64) w4 a1 (pwz X e2)∧Rq (dg W64) w4 out (pwz X e1)∧e1+e2*i=N∧e2≤8∧i≤8∧Xt1 t w.here w4∧Eg w4 p [zm,pz,mo,hg,g,po,nu,ra,ro,dv,rc,c,m,d,k,e] t now tab) N ⟨N,0,1,rfl,rfl,by rw [pwz_1 hX];exact h3.rq,h2.ext e3,by omega,by omega,by omega,e13.any,hE.here.ext e13⟩ ?_
  rintro M a1 x out w4 ⟨i,f1,f2,rfl,rfl,hA,hO,hsum,hf2,hi8,x4,hE4⟩
  have hN8:N≤8:=by omega
  refine cnd_d (fun h=>?_) (fun h=>?_)
  ·refine remN (x:=i) (y:=2) rfl rfl (by omega) ?_
   have hi:1≤i:=by omega
   have hdm:=Nat.div_add_mod i 2
   have hprod:f2*i=f2*(2*(i/2))+f2*(i%2):=by rw [←Nat.mul_add,hdm]
   have hle:f2*1≤f2*i:=Nat.mul_le_mul_left _ hi
   refine j1 (fun (o1:Sl) w6=>Rq (dg W64) w6 o1 (pwz X (f1+f2*(i%2)))∧Rq (dg W64) w6 a1 (pwz X f2)∧Xt1 t w.here w6∧Eg w6 p [zm,pz,mo,hg,g,po,nu,ra,ro,dv,rc,c,m,d,k,e] t now tab) ?_ ?_
   ·refine cnd_i (fun h'=>?_) (fun h'=>?_)
    ·have h2':i%2=1:=by simp at h';omega
     have q1:=hok f1
     have q2:=hok f2
     refine t1 hE4.tz (zmul_Times hE4 hO.ri hA.ri (.of (by omega) (by omega) (by omega)) h0 h1) ?_
     rintro s1 w5 x5 ⟨h5,hE5⟩
     rw [pwz_add] at h5
     rw [h2',Nat.mul_one]
     obtain ⟨ts,g1,g2,g3⟩:=hA
     exact ⟨h5,⟨ts,g1.extT (iv_ne ts) hE4.tz x5,g2,fun i hi=>⟨(g3 i hi).1.extT hE4.tz x5,(g3 i hi).2⟩⟩,x4.trans x5,hE5⟩
    ·have h2':i%2=0:=by
      have h3':¬i%2=1:=fun h3'=>by rw [h3'] at h';simp at h'
      omega
     rw [h2',Nat.mul_zero,Nat.add_zero]
     exact ⟨hO,hA,x4,hE4⟩
   rintro o1 w6 ⟨hO6,hA6,x6,hE6⟩
   refine j1 (fun (a2:Sl) w8=>Rq (dg W64) w8 o1 (pwz X (f1+f2*(i%2)))∧(1<i→Rq (dg W64) w8 a2 (pwz X (f2+f2)))∧(i=1→Rq (dg W64) w8 a2 (pwz X f2))∧Xt1 t w.here w8∧Eg w8 p [zm,pz,mo,hg,g,po,nu,ra,ro,dv,rc,c,m,d,k,e] t now tab) ?_ ?_
   ·refine cnd_d (fun h'=>?_) (fun h'=>?_)
    ·have q2:=hok f2
     have hle2:f2*2≤f2*i:=Nat.mul_le_mul_left _ (by omega)
     refine t1 hE6.tz (zmul_Times hE6 hA6.ri hA6.ri (.of (by omega) (by omega) (by omega)) h0 h1) ?_
     rintro s2 w7 x7 ⟨h7,hE7⟩
     rw [pwz_add] at h7
     obtain ⟨ts,g1,g2,g3⟩:=hO6
     exact ⟨⟨ts,g1.extT (iv_ne ts) hE6.tz x7,g2,fun i hi=>⟨(g3 i hi).1.extT hE6.tz x7,(g3 i hi).2⟩⟩,fun _=>h7,fun h=>(by omega),x6.trans x7,hE7⟩
    ·exact ⟨hO6,fun h=>(by omega),fun _=>hA6,x6,hE6⟩
   rintro a2 w8 ⟨hO8,hA8,hA8',x8,hE8⟩
   refine divNi (x:=i) (y:=2) rfl rfl (by omega) (by omega) ?_
   by_cases hi1:i=1
   ·refine ⟨i/2,by omega,i/2,f1+f2*(i%2),f2,rfl,rfl,hA8' hi1,hO8,?_,hf2,by omega,x8,hE8⟩
    subst hi1
    omega
   ·have hle2:f2*2≤f2*i:=Nat.mul_le_mul_left _ (by omega)
    refine ⟨i/2,by omega,i/2,f1+f2*(i%2),f2+f2,rfl,rfl,hA8 (by omega),hO8,?_,by omega,by omega,x8,hE8⟩
    rw [show (f2+f2)*(i/2)=f2*(2*(i/2)) by grind]
    omega
  ·have:i=0:=by omega
   subst this
   rw [Nat.mul_zero,Nat.add_zero] at hsum
   subst hsum
   exact ⟨hO,x4,hE4⟩
 rintro out w9 ⟨hO,x9,hE9⟩
 exact rt1 (c:=.slice) _ x9 ⟨hO.at,hE9.at⟩
end
end Go.Proofs.YtjhfalgmgagdhaaGreatDoor.Zg
end
