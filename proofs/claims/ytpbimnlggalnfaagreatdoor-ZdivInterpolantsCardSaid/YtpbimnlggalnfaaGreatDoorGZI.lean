/- A part of the proofs of this seat's laws. -/
import Derived.Test.YtpbimnlggalnfaaGreatDoorGZG
set_option linter.unusedVariables false
set_option linter.unusedSimpArgs false
set_option linter.unnecessarySimpa false
namespace Go.Proofs.YtpbimnlggalnfaaGreatDoor.Zg
open Go.RowKit
section
variable {a:List Int} {P:List Int→Prop}
theorem yL(l:List Int):ctn (ag l)=ctn l:=Nat.dvd_antisymm (mW λi=>by rw [←cC];exact kz _ i) (mW λi=>by rw [cC];exact kz _ i)
theorem aai(a b:List Int):cts [a,b]=Nat.gcd (ctn a) (ctn b):=by
 unfold cts;rw [List.foldl_cons,List.foldl_cons,List.foldl_nil,aaj];rfl
theorem aak(h:Nm a):decide (cpz a<0)=decide (ldz a<0):=by
 rw [decide_eq_decide];by_cases h0:a=[]
 ·subst h0;simp [cpz,ldz,ctn]
 ·have:=pe h h0;unfold cpz;split<;>omega
theorem zi(ha:P a)(h0:P []):∀j,P ([a].getD j [])
 | 0=>ha
 | j+1=>by simpa using h0
theorem zh{b:List Int}(ha:P a)(hb:P b)(h0:P []):∀j,P ([a,b].getD j [])
 | 0=>ha
 | 1=>hb
 | j+2=>by simpa using h0
set_option maxHeartbeats 1000000 in
theorem wW{w:TW}{t:HL I11}{a b c0:Sl}{cn:Bool}{zs ys:List Int}{z:Int}(hG:Gl w)(ha:Ri w a zs)(hb:Ri w b ys)(hc:Iz w c0 cn z):Ct Pg F.bK [.agg (aX I11 t).toArray,a.v,b.v,.agg #[c0.v,.bool cn]] w aa [.one .bool] λ(r:Bool) _=>r=true:=by
 refine Ct.bK ?_;unfold Sh.bK;intro w1 e1 w2 e2;have e12:=e1.trans e2;refine c2 (kI (n:=10) (k:=3) (ha.here.ext e12) dcd dcd) ?_;rintro s s1 w3 e3 ⟨X,lx,hs,hs1⟩;refine c2 (kI (n:=10) (k:=3) ((hb.here.ext e12).ext e3) dcd dcd) ?_;rintro s2 s3 w4 e4 ⟨Y,ly,ht,ht1⟩;refine cl0 (pv (n:=2) (((hc.here.ext e12).ext e3).ext e4)) ?_;intro r r1 w5 e5 hr;obtain⟨rfl,rfl⟩:=hr;obtain⟨z',hz',hzn⟩:=((((hc.here.ext e12).ext e3).ext e4).ext e5).cutn 2;have hz2:sz z'.natAbs≤2:=Nat.le_trans hz'.sz_n hzn;have hzb:bl z'.natAbs≤128:=by have:=rT z'.natAbs;omega
 refine cl0 (ko hz' (Nat.le_trans hzn dcd)) ?_;intro r2 r3 w6 e6 hr2;obtain⟨hr2,-⟩:=hr2;have hr2:Zr w6 r2 r3 z':=hr2;have hX:hgt X≤192:=bW hs.hg;have hY:hgt Y≤192:=bW ht.hg;have lX:=au X;have lY:=au Y;have e36:=(e4.trans e5).trans e6;refine c1 (il (hs1.ext e36) hr2 om (by rw [gw];omega) om) λs4 w7 e7 h4=>?_
 have lP:(Sc z' (ag X)).length≤10:=Nat.le_trans (iN _ _) om;have gP:hgt (Sc z' (ag X))≤320:=iK (by rw [gw];exact hX) hzb;have nP:Nm (Sc z' (ag X)):=Nm.trim _;generalize Sc z' (ag X)=P at*;have tP:ag P=P:=jf nP;refine c1 (nn h4 om λi=>Nat.le_trans (jz gP i) dcd) λs5 w8 e8 h5=>?_
 have e38:=(e36.trans e7).trans e8;have e48:=((e5.trans e6).trans e7).trans e8;have e18:=((e12.trans e3).trans e4).trans e48;refine oO (t:=t) (hG.here.ext e18) λp w9 zd zm pz mo hg g po nu ra ro dv rc c m d k e tt tab e9 hE htt hp=>aw (by rw [hp]) ?_
 have hs4:=h4.ext (e8.trans e9);have hs3:=ht1.ext (e48.trans e9);have hs2:=ht.ri.ext (e48.trans e9);have hs5:=h5.rq.ext e9;refine c1 (gv hs4 om om) λs6 w10 e10 h6=>?_
 refine c1 (gv (hs3.ext e10) om (by rw [gw];omega)) λs7 w11 e11 h7=>?_
 rw [yL] at h7;have dzc:∀L:List Int,hgt L≤320→dz (ctn L)≤1048576:=λL hL=>Nat.le_trans (iA (dN (me hL))) dcd
 have d1:=dzc P gP;have d2:=dzc Y om;refine c1 (qF (h6.ext e11) h7 d1 d2) λs8 w12 e12' h8=>?_
 have e912:=(e10.trans e11).trans e12';have hE12:=hE.ext e912;have szP:∀i,sz (P.getD i 0).natAbs≤8192:=λi=>Nat.le_trans (kJ gP i) dcd
 have szY:∀i,sz (Y.getD i 0).natAbs≤8192:=λi=>Nat.le_trans (kJ hY i) dcd
 refine tM hE12.tz (i5 hE12 (hs5.ext e912).ri om szP dcd dcd) ?_;rintro r4 r5 s9 w13 x13 ⟨hr4,hr5,hs9,hE13⟩;have hr4:On w13 w12.w.heap.size r4 (ctn (ag P)):=hr4;have hr5:r5=decide (ldz (ag P)<0):=hr5;rw [tP] at hr4 hr5 hs9;intro w14 e14 w15 e15;have e1315:=e14.trans e15;have hT:=hE12.tz;have hs4:=((hs4.ext e912).extT hT x13).ext e1315;have hs5:=((hs5.ext e912).extT hT x13).ext e1315;have hs2:=((hs2.ext e912).extT hT x13).ext e1315;have h8:=(Dr.ext (Rd.extT h8 hT x13) e1315);refine cl0 (iI hs4 nP om om) ?_;intro r6 r7 s10 w16 e16 hp2;have hr6:Zr w16 r6 r7 (cpz P):=hp2.1;have hs10:Rq (dg B32) w16 s10 (ppz P):=hp2.2;intro w17 e17 w18 e18';have e1618:=(e17.trans e18').drew;have e1518:=e16.trans e1618;have e1318:=e1315.trans e1518;have hE18:=hE13.ext e1318;have hr4:=hr4.ext e1318;have hs9:=hs9.ext e1318;have hr6:=hr6.ext e1618;have hs10:=hs10.ext e1618
 have hs4:=hs4.ext e1518;have hs5:=hs5.ext e1518;have hs2:=hs2.ext e1518;have h8:=h8.ext e1518;refine j1 (λ(x:Bool) w40=>x=true∧Xt1 tt w18.drew w40) ?_ ?_
 ·refine sS hs5.ri hs2 λb1 w19 h19 e19=>?_
  have hE19:=hE18.ext e19;have l0:([]:List Int).length≤65536:=dcd;have z0:∀i,sz (([]:List Int).getD i 0).natAbs≤8192:=λi=>by simp [sz,aG]
  refine t1 hE19.tz (ka (l:=⟨some ⟨b1,0,none⟩,2,2⟩) hE19 h19 smp (zh (P:=λL=>L.length≤65536) om om l0) (zh (P:=λL=>∀i,sz (L.getD i 0).natAbs≤8192) szP szY z0) dcd dcd) ?_;rintro s11 w20 x20 ⟨h20,hE20⟩;rw [aai] at h20;have y20:Xt1 tt w18.drew w20:=e19.any.trans x20;have hT18:=hE18.tz;have h8:=Rd.extT h8 hT18 y20
  have dg:dz (Nat.gcd (ctn P) (ctn Y))≤274877906944:=by
   rcases Nat.eq_zero_or_pos (ctn P) with h|h
   ·rw [h,Nat.gcd_zero_left];omega
   ·exact Nat.le_trans (jJ (Nat.gcd_le_left _ h)) om
  refine c1 (pB h8 h20.rd dg rfl) ?_;rintro ok w21 e21 rfl;refine aZ rfl ?_;have y21:Xt1 tt w18.drew w21:=y20.trans e21.any;have hE21:=hE20.ext e21;have hs4:=hs4.extT hT18 y21;have hs5:=hs5.extT hT18 y21;have hr4:=On.extT hr4 hT18 y21;have hs9:=hs9.extT hT18 y21;have hr6:Zr w21 r6 r7 (cpz P):=⟨Rd.extT hr6.1 hT18 y21,hr6.2⟩;have hs10:=hs10.extT hT18 y21
  have tl:∀{v:TW} {b:Nat} {s12:Sl} {J:Bool→TW→Prop},Ext aa w21 v→Rz v ⟨some ⟨b,0,none⟩,1,1⟩ [P]→Dr v s12 (ctn P)→(∀v',Xt1 tt w21 v'→J true v')→
    cl Pg F.aF [.pointer p,.slice (some ⟨b,0,none⟩) 1 1] v [.one .slice] λ(s13:Sl) w24=>cl Pg F.bi [s12.v,s13.v] w24 [.one .bool] λ(ok1:Bool) w25=>cond ok1 (cl Pg F.aF [.pointer p,.slice none 0 0] w25 [.one .slice] λ(s14:Sl) w26=>cond (((s14.n:Int):Int) == 0) (cl Pg F.bP [.agg #[r6.v,.bool r7]] w26 [.agg [.slice,.bool]] λ(r8:Sl)(r9:Bool) w27=>cl Pg F.ck [.agg #[r4.v,.bool r5],.agg #[r8.v,.bool r9]] w27 [.one .bool] λ(ok2:Bool) w28=>cond ok2 (cl Pg F.aT [s10.v,s9.v] w28 [.one .bool] λ(ok3:Bool) w29=>cond ok3 (cl Pg F.aP [] w29 [.one .bool] λ(ok4:Bool) w30=>J ok4 w30) (J false w29)) (J false w28)) (J false w26)) (J false w25):=by
   intro v b s12 J ev hl h12 hJ;have hEv:=hE21.ext ev;refine t1 hEv.tz (ka (l:=⟨some ⟨b,0,none⟩,1,1⟩) hEv hl smp (zi (P:=λL=>L.length≤65536) om l0) (zi (P:=λL=>∀i,sz (L.getD i 0).natAbs≤8192) szP z0) dcd dcd) ?_;rintro s13 w24 x24 ⟨h24,hE24⟩;have h24:On w24 v.w.heap.size s13 (ctn P):=h24;refine c1 (pB (Rd.extT h12 hEv.tz x24) h24.rd om rfl) ?_;rintro ok1 w25 e25 rfl;refine aZ rfl ?_;have hE25:=hE24.ext e25;refine t1 hE25.tz (ka (l:=Sl.nil) (zss:=[]) hE25 ⟨[],⟨rfl,Nat.le_refl _,Nat.zero_le _,λh=>absurd rfl h⟩,rfl,λi hi=>absurd hi smp⟩ smp (λj=>smp) (λj i=>by simp [sz,aG]) dcd dcd) ?_;rintro s14 w26 x26 ⟨h26,hE26⟩;have h26:On w26 w25.w.heap.size s14 0:=h26;have n14:s14.n=0:=by rw [h26.rd.len,aG];rfl
   refine aZ (by rw [n14];rfl) ?_;have y26:Xt1 tt w21 w26:=((ev.any.trans x24).trans e25.any).trans x26;have hT21:=hE21.tz;refine cl0 (pC (⟨Rd.extT hr6.1 hT21 y26,hr6.2⟩:Zr w26 r6 r7 (cpz P)) (by rw [jK];omega)) ?_;intro r8 r9 w27 e27 hr8;have hr8:On w27 w26.w.heap.size r8 (cpz P).natAbs∧r9=decide (cpz P<0):=hr8;refine c1 (tw ((On.extT hr4 hT21 y26).ext e27) hr8.1 (by rw [jK]) (by rw [hr5,hr8.2,aak nP])) ?_;rintro ok2 w28 e28 rfl;refine aZ rfl ?_;have e2628:=e27.trans e28;refine sg ((hs10.extT hT21 y26).ext e2628) ((hs9.extT hT21 y26).ext e2628) (by rw [ek];omega) (Nat.le_trans (lW gP) dcd) λw29 e29=>aZ rfl ?_
   exact xI (hE26.gl.ext (e2628.trans e29)) λw30 e30=>hJ w30 (y26.trans ((e2628.trans e29).trans e30).any)
  have fin:∀v',Xt1 tt w21 v'→true=true∧Xt1 tt w18.drew v':=λv' h=>⟨rfl,y21.trans h⟩
  refine⟨?_,?_⟩
  ·refine c1 (gv hs4 om om) λs12 w22 e22 h22=>?_
   refine sT (hs5.ri.ext e22) λb2 w23 h23 e23=>?_
   exact tl (e22.trans e23) h23 (Dr.ext h22 e23) fin
  ·refine sT hs5.ri λb3 w31 h31 e31=>?_
   refine c1 (gv (hs4.ext e31) om om) λs15 w32 e32 h32=>?_
   exact tl (e31.trans e32) (h31.ext e32) h32 fin
 rintro x w40 ⟨rfl,x40⟩;refine rt1 (c:=.bool) true ?_ rfl;exact (e18.trans (e9.trans e912)).own (x13.trans (e1318.any.trans x40)) λc hc=>by subst hc;exact Nat.le_trans e18.size htt
end
end Go.Proofs.YtpbimnlggalnfaaGreatDoor.Zg
