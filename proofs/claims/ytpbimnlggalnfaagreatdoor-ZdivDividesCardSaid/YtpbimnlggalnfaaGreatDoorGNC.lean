/- A part of the proofs of this seat's laws. -/
import Derived.Test.YtpbimnlggalnfaaGreatDoorGNB
import Derived.Test.YtpbimnlggalnfaaGreatDoorGIB
import Derived.Test.YtpbimnlggalnfaaGreatDoorGP3
set_option linter.unusedVariables false
set_option linter.unusedSimpArgs false
set_option linter.unnecessarySimpa false
namespace Go.Proofs.YtpbimnlggalnfaaGreatDoor.Zg
open Go.RowKit
section
variable {x:Nat} {a b:Sl} {la lb:List Nat}
theorem Eg.bot{w:TW}{q:Option Addr}{t:Nat}{now:Int}{tab:List Int}(h:Eg w q [] t now tab){K:Addr→Prop}(hK:∀m d,Tn w t m now d tab→K ⟨t,0,none⟩):nck q K:=by
 obtain⟨hc,_,_,_,m,d,hT⟩:=h;have hc:q=some ⟨t,0,none⟩:=hc;subst hc;exact ah (hK m d hT)
theorem bits_Len{w:TW}(hx:x<W64):Ct Pg F.jX [.int .u64 x] w aa [.one (.int .i64)] λ(r:Int) _=>r=bl x:=by
 refine Ct.jX ?_;unfold Sh.jX;refine c1 (bits_Len64 hx) ?_;rintro r w1 e1 rfl;exact rt1 (c:=.int .i64) _ e1 rfl
theorem tI{b:Nat}(h0:0<b):∀(K:Nat) (c:Nat→Nat),(∀i,c i<b)→∀i,i<K→(sgN K λu=>c u*b^u)/b^i%b=c i
 | 0,_,_,i,h=>absurd h om
 | K+1,c,hc,i,hi=>by
  have e:(sgN K λu=>c (u+1)*b^(u+1))=b*sgN K λu=>c (u+1)*b^u:=by
   rw [←oD];exact fK λu _=>by rw [Nat.pow_succ];grind
  rw [nk,e,Nat.pow_zero,Nat.mul_one];cases i with
  | zero=>rw [Nat.pow_zero,Nat.div_one,Nat.add_mul_mod_self_left,Nat.mod_eq_of_lt (hc 0)]
  | succ i=>
   rw [Nat.pow_succ,Nat.mul_comm (b^i),←Nat.div_div_eq_div_mul,Nat.add_mul_div_left _ _ h0,Nat.div_eq_of_lt (hc 0),Nat.zero_add];exact tI h0 K (λu=>c (u+1)) (λu=>hc _) i om
theorem qL(x i:Nat):∀k,(sgN k λj=>W64^j*(x/W64^(i+j)%W64))=x/W64^i%W64^k
 | 0=>by rw [sgN,Nat.pow_zero,Nat.mod_one]
 | k+1=>by
  rw [sgN,qL x i k,Nat.pow_succ,Nat.mod_mul,Nat.pow_add,Nat.div_div_eq_div_mul]
theorem abT{k:Nat}(h:bl x≤k):x<2^k:=fM h
section
variable {w w':TW} {p np:Option Addr} {q mo hg g po nu ra ro dv rc c m d k e t:Nat} {now:Int} {tab:List Int}
theorem pmul_New{P:Nat}{tb:HL I11}(hw:Gl w)(h3:3≤P)(hlt:P<4611686018427387904)(hodd:P%2=1)(hP:isP P=true):Ct Pg F.kl [.agg (aM I11 tb).toArray,.int .u64 P] w aa [.one .ptr,.one (.int .i64)] λ(p:Option Addr)(er:Int) w'=>er=0∧∃np mo hg g po nu ra ro dv rc c m d k e t tab,Pe w' p P np∧Eg w' np [mo,hg,g,po,nu,ra,ro,dv,rc,c,m,d,k,e] t 0 tab∧w.w.heap.size≤t:=by
 refine Ct.kl ?_;unfold Sh.kl;intro w1 e1;refine c2 (polyp_New (hw.here.ext e1) h3 hlt hodd hP) ?_;rintro rp er w2 e2 ⟨rfl,hR⟩;refine ap smp ?_;have e12:=e1.trans e2;refine tW.mk (t:=tb) (hw.here.ext e12) (λnp w3 bs b tab e3 hl hE hb hp=>?_) dcd;refine yd λb2 w4 h4 _ e4=>?_
 match bs,hl with
 | [mo,hg,g,po,nu,ra,ro,dv,rc,c,m,d,k,e],_=>
  exact rt2 (c:=.ptr) (d:=.int .i64) (some ⟨b2,0,none⟩) 0 ((e12.trans e3).trans e4) ⟨rfl,np,mo,hg,g,po,nu,ra,ro,dv,rc,c,m,d,k,e,b,tab,⟨b2,rp,rfl,h4.mv,((hR.ext e3).ext e4).at⟩,(hE.ext e4).at,Nat.le_trans e12.size hb⟩
theorem pO(hE:Pe w p q np)(ha:Rd w a la)(hb:Rd w b lb)(hla:la.length≤1048576)(hlb:lb.length≤1048576){K:Sl→Sl→TW→Prop}(hK:∀s u w' ma mb,Ext aa w w'→Ow w' w.w.heap.size s ma→Ow w' w.w.heap.size u mb→ma.length≤la.length→mb.length≤lb.length→Sm q ma→Sm q mb→(∀i,cv ma mb i%q=cv la lb i%q)→K s u w'):
  nck p λa1=>ldc (.ptr) w.drew a1 λ(v:Option Addr)=>nck p λa2=>ldc (.ptr) w.drew a2 λ(v1:Option Addr)=>cl Pg F.aw [.pointer v,a.v] w.drew [.one .slice] λ(s:Sl) w1=>hld w1 [(a2,.pointer v1)] <| cl Pg F.aw [.pointer v1,b.v] w1 [.one .slice] λ(s1:Sl) w2=>K s s1 w2:=by
 have hq:=hE.rng;have hEd:=hE.drew;refine hEd.rg λa1 r1 _ g1=>hEd.rg λa2 r2 k2 g2=>?_
 refine c1 (je g1 ha.drew om) ?_;rintro s w1 e1 ⟨ma,hA,nA,gA⟩;refine kG (k2.ext e1).1 ?_;refine c1 (je (g2.ext e1) (hb.drew.ext e1) om) ?_;rintro s1 w2 e2 ⟨mb,hB,nB,gB⟩
 have sm:∀(l:List Nat) (f:Nat→Nat),(∀i,l.getD i 0=f i%q)→Sm q l:=λl f h x hx=>by
  obtain⟨i,hi,rfl⟩:=List.getElem_of_mem hx;have:=h i;rw [List.getD_eq_getElem?_getD,List.getElem?_eq_getElem hi] at this;simp at this;rw [this];exact Nat.mod_lt _ om
 exact hK s s1 w2 ma mb (((Ext.refl _ _).drew.trans e1).trans e2) (hA.ext e2) (hB.less e1.size) nA nB (sm _ _ gA) (sm _ _ gB) (uE (λi=>by rw [gA i,Nat.mod_mod]) (λi=>by rw [gB i,Nat.mod_mod]))
theorem xB{ma mb:List Nat}(h:ma.length=0∨mb.length=0)(hc:∀i,cv ma mb i%q=cv la lb i%q)(i:Nat):([]:List Nat).getD i 0=cv la lb i%q:=by
 rw [←hc i,show cv ma mb i=0 from ?_]
 ·simp
 ·rcases h with h|h
  ·rw [List.length_eq_zero_iff.1 h,sJ]
  ·rw [tw,List.length_eq_zero_iff.1 h,sJ]
theorem kT{s u:Sl}{n:Nat}(hs:s.n=n)(hu:u.n=m){K:Bool→TW→Prop}(hK:K (decide (n=0∨m=0)) w):Jn [.bool] (λJ0=>cond (((s.n:Int):Int) == 0) (J0 true w) (J0 (((u.n:Int):Int) == 0) w)) K:=by
 subst hs;subst hu;refine j1 (λ(x:Bool) w3=>x=decide (s.n=0∨u.n=0)∧w3=w) ?_ ?_
 ·refine aG (λh=>⟨?_,rfl⟩) (λh=>⟨?_,rfl⟩)
  ·symm;rw [decide_eq_true_iff];left;simp at h;omega
  ·have h:¬s.n=0:=λh'=>by rw [h'] at h;simp at h
   rw [Bool.eq_iff_iff,decide_eq_true_iff];constructor
   ·intro h';right;simp at h';omega
   ·rintro (h'|h')
    ·exact absurd h' h
    ·simp;omega
 rintro x w3 ⟨rfl,rfl⟩;exact hK
theorem aaP(hE:Pe w p q np)(hN:Eg w np [mo,hg,g,po,nu,ra,ro,dv,rc,c,m,d,k,e] t now tab)(ha:Rd w a la)(hb:Rd w b lb)(hla:la.length≤1048576)(hlb:lb.length≤1048576):Ct Pg F.ft [.pointer p,a.v,b.v] w (λk=>k=t) [.one .slice] λ(s:Sl) w'=>Pq w' w.w.heap.size s q la lb∧Eg w' np [mo,hg,g,po,nu,ra,ro,dv,rc,c,m,d,k,e] t now tab:=by
 refine Ct.ft ?_;unfold Sh.ft;have hq:=hE.rng;refine pO hE.here ha.here hb.here hla hlb λs u w2 ma mb e2 hA hB nA nB sA sB hcv=>?_
 have hE2:=hE.here.ext e2;have hN2:=hN.here.ext e2;have ns:=hA.rd.len;have nu':=hB.rd.len;refine kT ns nu' ?_;refine ac (λh0=>?_) (λh0=>?_)
 ·exact rt1 (c:=.slice) Sl.nil e2.any ⟨⟨[],Ow.nil _ _,smp,xB h0 hcv⟩,hN2.at⟩
 refine hE2.en λa3 _ _=>hN2.down14 λ_ _ _ _ _ _ _ _ _ _ _ _ _ _ _ _ _ _ _ _ _ _ _ _ _ _ _ _ E14 _=>E14.bot λm1 d1 hT=>?_
 refine t2 hN2.tz (conv_Words hN2.gl hT hA.rd hB.rd) ?_;rintro s2 ok w4 x4 ⟨hok,-,hTs,m2,hT4⟩;have hE4:=hE2.extT hN2.tz x4;have hN4:Eg w4 np [mo,hg,g,po,nu,ra,ro,dv,rc,c,m,d,k,e] t now tab:=hN2.set x4 hT4;have y4:=e2.any.trans x4;have hA4:=hA.extT hN2.tz x4;have hB4:=hB.extT hN2.tz x4;cases ok with
 | false=>
  refine aQ rfl ?_;refine c1 (tO 1048576 hE4 hN4 hA4.rd hB4.rd om om om) λs3 w5 e5 h5=>?_
  exact rt1 (c:=.slice) _ (y4.trans e5.any) ⟨((h5.of om hcv).less y4.size).at,(hN4.ext e5).at⟩
 | true=>
  refine ap rfl ?_;obtain⟨Ts,hO,hl,hTw,hv⟩:=hTs rfl;have n2:=hO.rdv.len3;refine bW (N:=Ts.length) om om λs4 w6 h6 n6 e6 b6=>?_
  refine j0 (λw12=>(∃l,Ow w12 w4.w.heap.size s4 l∧l.length=Ts.length∧∀i,l.getD i 0=cv ma mb i%q)∧Ext aa w4 w12) ?_ ?_
  ·refine lp1 (λM (x:Int) w7=>∃j l,x=(j:Nat)∧M=Ts.length-j∧j≤Ts.length∧Ow w7 w4.w.heap.size s4 l∧l.length=Ts.length∧(∀i,i<j→l.getD i 0=cv ma mb i%q)∧Ext aa w4 w7) Ts.length ⟨0,_,rfl,om,om,h6,smp,λi h=>(by omega),e6⟩ ?_;rintro M x w7 ⟨j,l,rfl,rfl,hj,ho,hlen,hgt,e7⟩;refine ac (λh=>?_) (λh=>?_)
   ·have hj':j<Ts.length:=om;refine (hO.rdv.extN e7).at3 (λ_ _=>rfl) (j:=j) rfl hj' ?_;intro w8 e8 w9 e9;have e79:=e8.trans e9;refine c1 (pU (hE4.ext (e7.trans e79))) ?_;rintro r w10 e10 rfl;have e710:=e79.trans e10;refine (ho.ext e710).store (j:=j) rfl om (Nat.lt_trans (Nat.mod_lt _ om) (show q<W64 by rw [w64];omega)) rfl λw11 h11 e11=>?_
    refine ab om om ⟨Ts.length-(j+1),om,j+1,_,om,rfl,om,h11,by simp [hlen],λi hi=>?_,(e7.trans e710).own e11 λc hc=>(ho.from_ c hc).1⟩;rw [i5 om];by_cases h':i=j
    ·subst h';rw [if_pos rfl,←hv i hj'];rfl
    ·rw [if_neg h'];exact hgt i om
   ·refine⟨⟨l,ho,hlen,λi=>?_⟩,e7⟩;rcases Nat.lt_or_ge i j with hi|hi
    ·exact hgt i hi
    ·rw [eW om,aao om];simp
  rintro w12 ⟨⟨l,ho,hlen,hgt⟩,e12⟩;refine (hE4.ext e12).rg λa21 r21 _ g21=>?_
  refine c1 (je g21 ho.rd om) λs5 w13 e13 h13=>?_
  have ee:=e12.trans e13;refine rt1 (c:=.slice) _ (y4.trans ee.any) ⟨((h13.of om λi=>?_).less (Nat.le_trans y4.size e12.size)).at,(hN4.ext ee).at⟩;show l.getD i 0%q=cv la lb i%q;rw [hgt i,Nat.mod_mod,hcv i]
end
end
section
variable {a b:Sl} {la lb:List Nat}
section
variable {w w':TW} {p np:Option Addr} {q mo hg g po nu ra ro dv rc c m d k e t:Nat} {now:Int} {tab:List Int}
theorem adF{ma mb:List Nat}(hq:3≤q)(sA:Sm q ma)(sB:Sm q mb)(hk:2*bl (q-1)+bl (min ma.length mb.length)≤64*k)(i:Nat):cv ma mb i<W64^k:=by
 have h1:cv ma mb i≤min ma.length mb.length*((q-1)*(q-1)):=by
  rcases Nat.le_total ma.length mb.length with h|h
  ·rw [Nat.min_eq_left h];exact yx sA sB om i
  ·rw [Nat.min_eq_right h,tw];exact yx sB sA om i
 have h2:=fr (min ma.length mb.length);have h3:=fr (q-1)
 have h4:min ma.length mb.length*((q-1)*(q-1))<2^bl (min ma.length mb.length)*(2^bl (q-1)*2^bl (q-1)):=by
  refine Nat.lt_of_le_of_lt (Nat.mul_le_mul_left _ (Nat.mul_le_mul (Nat.le_of_lt h3) (Nat.le_of_lt h3))) ?_;exact Nat.mul_lt_mul_of_pos_right h2 (Nat.mul_pos (Nat.two_pow_pos _) (Nat.two_pow_pos _))
 have h5:2^bl (min ma.length mb.length)*(2^bl (q-1)*2^bl (q-1))≤W64^k:=by
  rw [←Nat.pow_add,←Nat.pow_add,kw,←Nat.pow_mul];exact Nat.pow_le_pow_right dcd om
 omega
theorem aeD(D:Nat→Nat){kk:Nat}(h:kk=1∨kk=2∨kk=3)(W:Nat):(if 0<kk then D 0 else 0)+W*(if 1<kk then D 1 else 0)+W*W*(if 2<kk then D 2 else 0)=sgN kk λj=>W^j*D j:=by
 rcases h with rfl|rfl|rfl
 ·simp [sgN]
 ·simp [sgN]
 ·simp [sgN,Nat.pow_succ]
def fl3(D:Nat→Nat)(j:Nat):List Value:=[U (if 0<j then D 0 else 0),U (if 1<j then D 1 else 0),U (if 2<j then D 2 else 0)]
theorem acC(D:Nat→Nat){j:Nat}(hj:j<3):(fl3 D j).set j (U (D j))=fl3 D (j+1):=by
 match j,hj with
 | 0,_=>rfl
 | 1,_=>rfl
 | 2,_=>rfl
set_option maxHeartbeats 800000 in
theorem zw(hE:Pe w p q np)(hN:Eg w np [mo,hg,g,po,nu,ra,ro,dv,rc,c,m,d,k,e] t now tab)(ha:Rd w a la)(hb:Rd w b lb)(hla:la.length≤1048575)(hlb:lb.length≤1048575)(h0:0≤now)(h1:now≤1000000000000000000):Ct Pg F.et [.pointer p,a.v,b.v] w (λk=>k=t) [.one .slice] λ(s:Sl) w'=>Pq w' w.w.heap.size s q la lb∧Eg w' np [mo,hg,g,po,nu,ra,ro,dv,rc,c,m,d,k,e] t now tab:=by
 refine Ct.et ?_;unfold Sh.et;have hq:=hE.rng;refine pO hE.here ha.here hb.here om om λs u w2 ma mb e2 hA hB nA nB sA sB hcv=>?_
 have hE2:=hE.here.ext e2;have hN2:=hN.here.ext e2;have ns:=hA.rd.len;have nu':=hB.rd.len;refine kT ns nu' ?_;refine ac (λhz0=>?_) (λhz0=>?_)
 ·exact rt1 (c:=.slice) Sl.nil e2.any ⟨⟨[],Ow.nil _ _,smp,xB hz0 hcv⟩,hN2.at⟩
 refine hE2.rg λa3 r3 _ g3=>g3.md λa4 m4 _ hm4=>?_
 refine c1 (zJ hm4) ?_;rintro r w4 e4 rfl;refine fA (a:=q) (b:=1) rfl rfl om (by rw [w64];omega) ?_;refine c1 (bits_Len64 (x:=q-1) (by rw [w64];omega)) ?_;rintro r w5 e5 rfl;have hbq:bl (q-1)≤62:=aY om
 have hbq2:2≤bl (q-1):=by
  rcases Nat.lt_or_ge (bl (q-1)) 2 with h|h
  ·have:=abT (show bl (q-1)≤1 by omega);omega
  ·exact h
 obtain⟨mn,hmn⟩:∃mn,mn=min ma.length mb.length:=⟨_,rfl⟩;refine ab om om ?_;refine ag (y:=(mn:Int)) (by split<;>omega) ?_;refine ai rfl (by rw [w64];omega) ?_;refine c1 (bits_Len (x:=mn) (by rw [w64];omega)) ?_;rintro r w6 e6 rfl;have hbm:bl mn≤20:=aY om
 have hbm1:1≤bl mn:=by
  rcases Nat.lt_or_ge (bl mn) 1 with h|h
  ·have:=abT (show bl mn≤0 by omega);omega
  ·exact h
 refine ab om om (ab om om ?_);refine jb (x:=2*bl (q-1)+bl mn+63) (y:=64) om rfl om om ?_;obtain⟨kk,hkk⟩:∃kk,kk=(2*bl (q-1)+bl mn+63)/64:=⟨_,rfl⟩;rw [←hkk];have hk1:1≤kk:=om;have hk3:kk≤3:=om;have hkb:2*bl (q-1)+bl (min ma.length mb.length)≤64*kk:=by rw [←hmn];omega
 have hcw:∀i,cv ma mb i<W64^kk:=adF hq.1 sA sB hkb;clear hkk;have e26:=(e4.trans e5).trans e6;have e26d:=e26.drew;have hE6:=(hE2.ext e26).drew;have hN6:=(hN2.ext e26).drew;refine hE6.en λa5 k5 t5=>hN6.down10 λa6 v6 a7 v7 a8 v8 a9 v9 a10 v10 a11 v11 a12 v12 a13 v13 a14 v14 a15 v15 E10 H10=>?_
 have H5:HcC _ t [((a5.add 1),.pointer np)]:=.cons k5 (t5 t hN6.tz) (.nil _);have H:=H10.app H5;refine c1 (pmul_packed (hA.ext e26d).rd om hk1 hk3) ?_;rintro s2 w7 e7 ⟨l2,hl2,n2,v2⟩;refine aN (H.ext e7) ?_;refine c1 (pmul_packed (hB.ext (e26d.trans e7)).rd om hk1 hk3) ?_;rintro s3 w8 e8 ⟨l3,hl3,n3,v3⟩;have e78:=e7.trans e8;refine aN (H.ext e78) ?_;have sz2:sz (vl W64 l2)≤1073741824:=Nat.le_trans (df hl2.sm) (by rw [n2];have:=Nat.mul_le_mul hk3 (Nat.le_trans nA hla);omega);have sz3:sz (vl W64 l3)≤1073741824:=Nat.le_trans (df hl3.sm) (by rw [n3];have:=Nat.mul_le_mul hk3 (Nat.le_trans nB hlb);omega);have E8:=E10.ext e78;have hN8:=hN6.ext e78;refine t1 E8.tz (kZ E8 (hl2.ext e8).nt hl3.nt sz2 sz3 h0 om) ?_;rintro s4 w9 x9 ⟨h9,E9⟩;have hT8:=hN8.tz;refine aN ((H.ext e78).extT x9).tail ?_;have e28:=e26d.trans e78;have hE9:=(hE2.ext e28).extT hT8 x9
 have hN9:=hN8.re x9 E9;have y9:=(e2.trans e28).any.trans x9;rw [v2,v3] at h9;obtain⟨XY,hXY⟩:∃XY,vl (W64^kk) ma*vl (W64^kk) mb=XY:=⟨_,rfl⟩;rw [hXY] at h9;have h9:Ow w9 w8.w.heap.size s4 (dg W64 XY):=h9;have n4:=h9.rd.len;obtain⟨N,hNd⟩:∃N,N=ma.length+mb.length-1:=⟨_,rfl⟩
 have hdig:∀i,i<N→XY/(W64^kk)^i%W64^kk=cv ma mb i:=λi hi=>by
  have hs:=vR (W64^kk) mb (λh=>by rw [h] at hz0;simp at hz0) ma N om;rw [←hXY,←hs];exact tI (Nat.pow_pos dcd) N _ hcw i hi
 have hszX:sz XY≤1073741824:=by
  have:=dt (vl (W64^kk) ma) (vl (W64^kk) mb);rw [hXY,←v2,←v3] at this;have g2:=df hl2.sm;have g3:=df hl3.sm;have:=Nat.mul_le_mul hk3 (Nat.le_trans nA hla);have:=Nat.mul_le_mul hk3 (Nat.le_trans nB hlb);omega
 refine ab om om (ab om om ?_);refine bW (N:=N) om om λs5 w10 h10 n10 e10 b10=>?_
 refine j0 (λw19=>(∃l,Ow w19 w9.w.heap.size s5 l∧l.length=N∧∀i,l.getD i 0=cv ma mb i%q)∧Ext aa w9 w19) ?_ ?_
 ·refine lp1 (λM (x:Int) w11=>∃i l,x=(i:Nat)∧M=N-i∧i≤N∧Ow w11 w9.w.heap.size s5 l∧l.length=N∧(∀u,u<i→l.getD u 0=cv ma mb u%q)∧Ext aa w9 w11) N ⟨0,_,rfl,om,om,h10,smp,λi h=>(by omega),e10⟩ ?_;rintro M x w11 ⟨i,l,rfl,rfl,hi,ho,hlen,hgt,e11⟩;refine ac (λh=>?_) (λh=>?_)
  ·have hi':i<N:=om;have hki:kk*i≤3*N:=Nat.mul_le_mul hk3 om;obtain⟨D,hD⟩:∃D:Nat→Nat,D=λj=>(dg W64 XY).getD (kk*i+j) 0:=⟨_,rfl⟩
   refine yd λb1 w12 h12 hb12 e12=>?_
   refine j0 (λw16=>Rw w16 b1 (fl3 D kk)∧Ext aa w11 w16) ?_ ?_
   ·refine lp1 (λM (x:Int) w13=>∃j,x=(j:Nat)∧M=kk-j∧j≤kk∧Rw w13 b1 (fl3 D j)∧Ext aa w11 w13) kk ⟨0,rfl,om,om,h12,e12⟩ ?_;rintro M x w13 ⟨j,rfl,rfl,hj,hr,e13⟩;have hwi1:wi ((kk:Int)*(i:Nat))=((kk*i:Nat):Int):=by rw [←Int.natCast_mul];exact ar om om
    refine j1 (λ(x:Bool) w14=>x=decide (j<kk∧kk*i+j<sz XY)∧w14=w13) ?_ ?_
    ·refine ac (λh=>?_) (λh=>?_)
     ·refine ag hwi1 (ab om om ⟨?_,rfl⟩);rw [decide_eq_decide,n4,aA];omega
     ·refine⟨?_,rfl⟩;symm;rw [decide_eq_false_iff_not];omega
    rintro x w14 ⟨rfl,rfl⟩;refine ac (λh=>?_) (λh=>?_)
    ·refine ag hwi1 (ab om om ?_);refine ((h9.ext (e11.trans e13)).rd).ix (j:=kk*i+j) om (by rw [aA];omega) ?_;refine⟨om,om,?_⟩;rw [eX];refine hr.put (j:=j) smp (by simp [fl3];omega) _ λw15 h15 e15=>?_
     have hDj:D j=(dg W64 XY).getD (kk*i+j) 0:=by rw [hD]
     refine ab om om ⟨kk-(j+1),om,j+1,om,rfl,om,?_,e13.own e15 λc hc=>by rw [hc,hb12];exact Nat.le_refl _⟩;rw [←hDj] at h15;exact (acC D (j:=j) om)▸h15
    ·refine⟨?_,e13⟩;by_cases hjk:j=kk
     ·exact hjk▸hr
     ·have hz:∀u,j≤u→D u=0:=λu hu=>by rw [hD];exact eW (by rw [aA];omega)
      have:fl3 D j=fl3 D kk:=by
       have key:∀u,(if u<j then D u else 0)=if u<kk then D u else 0:=λu=>by
        by_cases h1:u<j
        ·rw [if_pos h1,if_pos om]
        ·rw [if_neg h1,hz u om];simp
       unfold fl3;rw [key 0,key 1,key 2]
      exact this▸hr
   rintro w16 ⟨h16,e16⟩;have hc:∀j,j<3→w16.w.cell? ((⟨b1,0,none⟩:Addr).add j)=(fl3 D kk)[j]?:=λj hj=>by rw [eX,Nat.zero_add];exact h16.cell j
   refine⟨_,(hc 0 dcd).trans rfl,_,(hc 1 dcd).trans rfl,_,(hc 2 dcd).trans rfl,?_⟩;refine c1 (pU (hE9.ext (e11.trans e16))) ?_;rintro r w17 e17 rfl;have e1117:=e16.trans e17
   have hval:(if 0<kk then D 0 else 0)+W64*(if 1<kk then D 1 else 0)+W64*W64*(if 2<kk then D 2 else 0)=cv ma mb i:=by
    rw [←hdig i hi',←Nat.pow_mul,←qL XY (kk*i) kk];have hDu:∀u,D u=XY/W64^(kk*i+u)%W64:=λu=>by rw [hD];exact xz W2 XY _
    exact (aeD D om W64).trans (fK λu _=>by rw [hDu u])
   refine (ho.ext e1117).store (j:=i) rfl om (Nat.lt_trans (Nat.mod_lt _ om) (show q<W64 by rw [w64];omega)) rfl λw18 h18 e18=>?_
   refine ab om om ⟨N-(i+1),om,i+1,_,om,rfl,om,h18,by simp [hlen],λu hu=>?_,(e11.trans e1117).own e18 λc hc=>(ho.from_ c hc).1⟩;rw [i5 om];by_cases h':u=i
   ·rw [if_pos h',h',hval]
   ·rw [if_neg h'];exact hgt u om
  ·refine⟨⟨l,ho,hlen,λu=>?_⟩,e11⟩;rcases Nat.lt_or_ge u i with hu|hu
   ·exact hgt u hu
   ·rw [eW om,aao om];simp
 rintro w19 ⟨⟨l,ho,hlen,hgt⟩,e19⟩;refine (hE9.ext e19).rg λa21 r21 _ g21=>?_
 refine c1 (je g21 ho.rd om) λs6 w20 e20 h20=>?_
 have ee:=e19.trans e20;refine rt1 (c:=.slice) _ (y9.trans ee.any) ⟨((h20.of om λi=>?_).less (Nat.le_trans y9.size e19.size)).at,(hN9.ext ee).at⟩;show l.getD i 0%q=cv la lb i%q;rw [hgt i,Nat.mod_mod,hcv i]
theorem aaQ(hE:Pe w p q np)(hN:Eg w np [mo,hg,g,po,nu,ra,ro,dv,rc,c,m,d,k,e] t now tab)(ha:Rd w a la)(hb:Rd w b lb)(hla:la.length≤1048575)(hlb:lb.length≤1048575)(h0:0≤now)(h1:now≤1000000000000000000):Ct Pg F.fu [.pointer p,a.v,b.v] w (λk=>k=t) [.one .slice] λ(s:Sl) w'=>Pq w' w.w.heap.size s q la lb∧Eg w' np [mo,hg,g,po,nu,ra,ro,dv,rc,c,m,d,k,e] t now tab:=by
 refine Ct.fu ?_;unfold Sh.fu;refine pO hE.here ha.here hb.here om om λs u w2 ma mb e2 hA hB nA nB sA sB hcv=>?_
 have hE2:=hE.here.ext e2;have hN2:=hN.here.ext e2;have ns:=hA.rd.len;have nu':=hB.rd.len;refine hE2.en λa3 _ _=>hN2.down14 λ_ _ _ _ _ _ _ _ _ _ _ _ _ _ _ _ _ _ _ _ _ _ _ _ _ _ _ _ E14 _=>E14.ents λr0 r1 r2 r3 r4 r5 r6 r7 r8 r9 r10 htab=>?_
 intro w3 e3 w4 e4;have e24:=e3.trans e4;have hE4:=hE2.ext e24;have hN4:=hN2.ext e24;have y4:=e2.trans e24;have hA4:=(hA.ext e24).rd;have hB4:=(hB.ext e24).rd;refine fV (ac (λh=>?_) (λh=>?_))
 ·refine hE4.rg λa19 r19 _ g19=>?_
  refine c1 (qQ g19 hA4 hB4 om om) λs2 w5 e5 h5=>?_
  exact rt1 (c:=.slice) _ (y4.trans e5).any ⟨((h5.of om hcv).less y4.size).at,(hN4.ext e5).at⟩
 refine ac (λh=>?_) (λh=>?_)
 ·refine c1 (tO 1048576 hE4 hN4 hA4 hB4 om om om) λs3 w5 e5 h5=>?_
  exact rt1 (c:=.slice) _ (y4.trans e5).any ⟨((h5.of om hcv).less y4.size).at,(hN4.ext e5).at⟩
 refine ab om om (ac (λh=>?_) (λh=>?_))
 ·refine t1 hN4.tz (aaP hE4 hN4 hA4 hB4 om om) ?_;rintro s4 w5 x5 ⟨h5,hN5⟩;exact rt1 (c:=.slice) _ (y4.any.trans x5) ⟨((h5.of om hcv).less y4.size).at,hN5.at⟩
 ·refine t1 hN4.tz (zw hE4 hN4 hA4 hB4 om om h0 h1) ?_;rintro s4 w5 x5 ⟨h5,hN5⟩;exact rt1 (c:=.slice) _ (y4.any.trans x5) ⟨((h5.of om hcv).less y4.size).at,hN5.at⟩
end
end
section
variable {a b l:List Int} {i j:Nat} {x:Int}
theorem Eg.down11{w:TW}{p:Option Addr}{b1 b2 b3 b4 b5 b6 b7 b8 b9 b10 b11 t:Nat}{bs:List Nat}{now:Int}{tab:List Int}(h:Eg w p (b1::b2::b3::b4::b5::b6::b7::b8::b9::b10::b11::bs) t now tab){K:Addr→Option Addr→Addr→Option Addr→Addr→Option Addr→Addr→Option Addr→Addr→Option Addr→Addr→Option Addr→Addr→Option Addr→Addr→Option Addr→Addr→Option Addr→Addr→Option Addr→Addr→Option Addr→Prop}(hK:∀a1 q1 a2 q2 a3 q3 a4 q4 a5 q5 a6 q6 a7 q7 a8 q8 a9 q9 a10 q10 a11 q11,Eg w q11 bs t now tab→HcC w t [(a11,.pointer q11),(a10,.pointer q10),(a9,.pointer q9),(a8,.pointer q8),(a7,.pointer q7),(a6,.pointer q6),(a5,.pointer q5),(a4,.pointer q4),(a3,.pointer q3),(a2,.pointer q2),(a1,.pointer q1)]→K a1 q1 a2 q2 a3 q3 a4 q4 a5 q5 a6 q6 a7 q7 a8 q8 a9 q9 a10 q10 a11 q11):nck p λa1=>ldc (.ptr) w a1 λ(q1:Option Addr)=>nck q1 λa2=>ldc (.ptr) w a2 λ(q2:Option Addr)=>nck q2 λa3=>ldc (.ptr) w a3 λ(q3:Option Addr)=>nck q3 λa4=>ldc (.ptr) w a4 λ(q4:Option Addr)=>nck q4 λa5=>ldc (.ptr) w a5 λ(q5:Option Addr)=>nck q5 λa6=>ldc (.ptr) w a6 λ(q6:Option Addr)=>nck q6 λa7=>ldc (.ptr) w a7 λ(q7:Option Addr)=>nck q7 λa8=>ldc (.ptr) w a8 λ(q8:Option Addr)=>nck q8 λa9=>ldc (.ptr) w a9 λ(q9:Option Addr)=>nck q9 λa10=>ldc (.ptr) w a10 λ(q10:Option Addr)=>nck q10 λa11=>ldc (.ptr) w a11 λ(q11:Option Addr)=>K a1 q1 a2 q2 a3 q3 a4 q4 a5 q5 a6 q6 a7 q7 a8 q8 a9 q9 a10 q10 a11 q11:=
 h.downC λq1 E1 h1 n1=>E1.downC λq2 E2 h2 n2=>E2.downC λq3 E3 h3 n3=>E3.downC λq4 E4 h4 n4=>E4.downC λq5 E5 h5 n5=>E5.downC λq6 E6 h6 n6=>E6.downC λq7 E7 h7 n7=>E7.downC λq8 E8 h8 n8=>E8.downC λq9 E9 h9 n9=>E9.downC λq10 E10 h10 n10=>E10.downC λq11 E11 h11 n11=>hK _ q1 _ q2 _ q3 _ q4 _ q5 _ q6 _ q7 _ q8 _ q9 _ q10 _ q11 E11 (.cons h11 n11 (.cons h10 n10 (.cons h9 n9 (.cons h8 n8 (.cons h7 n7 (.cons h6 n6 (.cons h5 n5 (.cons h4 n4 (.cons h3 n3 (.cons h2 n2 (.cons h1 n1 (.nil _))))))))))))
def czi(a b:List Int)(i k:Nat):Int:=Sg (min i (k+1)) λu=>a.getD u 0*b.getD (k-u) 0
theorem vQ(a b:List Int)(k:Nat):czi a b 0 k=0:=by
 unfold czi;rw [Nat.zero_min,Sg]
theorem abw(a b:List Int)(i k:Nat):czi a b (i+1) k=czi a b i k+if i≤k then a.getD i 0*b.getD (k-i) 0 else 0:=by
 unfold czi;split
 ·rename_i h;rw [show min (i+1) (k+1)=i+1 by omega,show min i (k+1)=i by omega,Sg]
 ·rename_i h;rw [show min (i+1) (k+1)=k+1 by omega,show min i (k+1)=k+1 by omega,Int.add_zero]
theorem Sg.tail{f:Nat→Int}{n:Nat}(h:∀u,n≤u→f u=0):∀{m:Nat},n≤m→Sg m f=Sg n f
 | 0,hm=>by rw [show n=0 by omega]
 | m+1,hm=>by
  rcases Nat.lt_or_ge m n with h1|h1
  ·rw [show n=m+1 by omega]
  ·rw [Sg,h m h1,Int.add_zero,Sg.tail h h1]
theorem fU(h:l.length≤i):l.getD i 0=0:=by
 rw [List.getD_eq_getElem?_getD,List.getElem?_eq_none h];rfl
theorem kS(hj:j<l.length)(i:Nat):(l.set j x).getD i 0=if i=j then x else l.getD i 0:=by
 simp only [List.getD_eq_getElem?_getD,List.getElem?_set];by_cases h:i=j
 ·subst h;simp [hj]
 ·rw [if_neg (λh'=>h h'.symm),if_neg h]
theorem uH(N k:Nat):(List.replicate N (0:Int)).getD k 0=0:=by
 rw [List.getD_eq_getElem?_getD,List.getElem?_replicate];split<;>rfl
theorem xA(a b:List Int)(k:Nat):czi a b a.length k=(pm a b).getD k 0:=by
 rw [ii];unfold czi;rcases Nat.le_total a.length (k+1) with h|h
 ·rw [Nat.min_eq_left h];exact (Sg.tail (λu hu=>by rw [fU hu,Int.zero_mul]) h).symm
 ·rw [Nat.min_eq_right h]
theorem adc{k:Nat}(h:a.length+b.length≤k+1):(pm a b).getD k 0=0:=by
 rw [ii,Sg.congr (g:=λ_=>0) λu _=>?_,Sg.zero];rcases Nat.lt_or_ge u a.length with h1|h1
 ·rw [fU (l:=b) om,Int.mul_zero]
 ·rw [fU h1,Int.zero_mul]
theorem Sg.abs{f:Nat→Int}{c:Nat}:∀{n:Nat},(∀k,k<n→(f k).natAbs≤c)→(Sg n f).natAbs≤n*c
 | 0,_=>by simp [Sg]
 | n+1,h=>by
  rw [Sg,Nat.add_mul,Nat.one_mul];have h1:=Sg.abs (n:=n) λk hk=>h k om
  have h2:=h n om;omega
def mid(a b:List Int)(i j k:Nat):Int:=czi a b i k+if i≤k∧k-i<j then a.getD i 0*b.getD (k-i) 0 else 0
theorem vw(a b:List Int)(i k:Nat):mid a b i 0 k=czi a b i k:=by
 unfold mid;rw [if_neg om,Int.add_zero]
theorem xm(a b:List Int)(hj:b.length≤j)(k:Nat):mid a b i j k=czi a b (i+1) k:=by
 unfold mid;rw [abw];congr 1;by_cases h2:i≤k
 ·rw [if_pos h2];by_cases h3:k-i<j
  ·rw [if_pos ⟨h2,h3⟩]
  ·rw [if_neg om,fU (l:=b) om,Int.mul_zero]
 ·rw [if_neg h2,if_neg om]
theorem vx(a b:List Int)(i j k:Nat):mid a b i (j+1) k=if k=i+j then mid a b i j k+a.getD i 0*b.getD j 0 else mid a b i j k:=by
 unfold mid;by_cases h:k=i+j
 ·subst h;rw [if_pos om,if_pos rfl,if_neg om,Int.add_zero,Nat.add_sub_cancel_left]
 ·rw [if_neg h];congr 1;by_cases h2:i≤k∧k-i<j
  ·rw [if_pos h2,if_pos om]
  ·rw [if_neg h2,if_neg om]
def Sht(a b:List Int):Prop:=a.length≤65536∧b.length≤65536∧hgt a+hgt b≤1000000
theorem Sht.mul(h:Sht a b)(i j:Nat):(a.getD i 0*b.getD j 0).natAbs≤2^(hgt a+hgt b):=by
 rw [Int.natAbs_mul,Nat.pow_add];exact Nat.mul_le_mul (Nat.le_trans (su a i) (Nat.sub_le _ _)) (Nat.le_trans (su b j) (Nat.sub_le _ _))
theorem Sht.mid(h:Sht a b)(hi:i<a.length)(j k:Nat):sz (mid a b i j k).natAbs≤1048576:=by
 have h1:(czi a b i k).natAbs≤65536*2^(hgt a+hgt b):=by
  refine Nat.le_trans (Sg.abs λu _=>h.mul u (k-u)) (Nat.mul_le_mul_right _ ?_);have:=h.1;omega
 have h2:(if i≤k∧k-i<j then a.getD i 0*b.getD (k-i) 0 else 0).natAbs≤2^(hgt a+hgt b):=by
  split
  ·exact h.mul _ _
  ·simp
 have h3:(Go.Proofs.YtpbimnlggalnfaaGreatDoor.Zg.mid a b i j k).natAbs<2^(hgt a+hgt b+17):=by
  unfold Go.Proofs.YtpbimnlggalnfaaGreatDoor.Zg.mid;rw [Nat.pow_add 2 (hgt a+hgt b) 17];have h0:=Nat.two_pow_pos (hgt a+hgt b);generalize 2^(hgt a+hgt b)=z at*;have e:(2:Nat)^17=131072:=dcd;rw [e];omega
 have h4:=iq h3;have:=h.2.2;omega
theorem Sht.one(h:Sht a b)(i:Nat):sz (a.getD i 0).natAbs≤1048576∧sz (b.getD i 0).natAbs≤1048576:=by
 have h1:=h.2.2;have h2:=iq (fM (oK (l:=a) i));have h3:=iq (fM (oK (l:=b) i));omega
theorem Sht.trim(h:Sht a b):Sht (ae a) (ae b):=by
 obtain⟨h1,h2,h3⟩:=h;have k1:=ao a;have k2:=ao b;exact⟨om,om,by rw [fJ,fJ];exact h3⟩
theorem td(h:∀k,l.getD k 0=(pm a b).getD k 0):ae l=pmt a b:=
 (Nm.trim _).ext (lM _ _) λi=>by rw [aT,iZ,h i]
theorem ph{a b:List Int}(h:(ae a).length=0∨(ae b).length=0):pmt a b=[]:=by
 rw [←vh];rcases h with h|h
 ·rw [List.length_eq_zero_iff.1 h];rfl
 ·rw [aaS,List.length_eq_zero_iff.1 h];rfl
theorem Oq.extT{D:Nat→List Nat}{w w':TW}{B t:Nat}{e:TypeId}{s:Sl}{zs:List Int}(h:Oq D w B e s zs)(hT:Tz w t)(he:e≠T.dj)(x:Xt1 t w w'):Oq D w' B e s zs:=by
 obtain⟨ts,h1,h2,h3⟩:=h;exact⟨ts,h1.extT hT he x,h2,λi hi=>⟨⟨(h3 i hi).1.1.extT hT x,(h3 i hi).1.2⟩,λhn c hc=>⟨((h3 i hi).2 hn c hc).1,Nat.lt_of_lt_of_le ((h3 i hi).2 hn c hc).2 x.size⟩⟩⟩
theorem Rq.extT{D:Nat→List Nat}{w w':TW}{t:Nat}{s:Sl}{zs:List Int}(h:Rq D w s zs)(hT:Tz w t)(e:Xt1 t w w'):Rq D w' s zs:=by
 obtain⟨ts,g1,g2,g3⟩:=h;exact⟨ts,g1.extT (uD ts) hT e,g2,λi hi=>⟨(g3 i hi).1.extT hT e,(g3 i hi).2⟩⟩
theorem Oq.ixT{D:Nat→List Nat}{w:TW}{B t:Nat}{e:TypeId}{s:Sl}{zs:List Int}(h:Oq D w B e s zs)(hT:Tz w t)(he:e≠T.dj){i:Int}(hi:i=j)(hj:j<zs.length){K:Addr→Sl→Bool→Prop}(hK:∀a u b,El D w (u,b) (zs.getD j 0)→HcC w t [(a.add 0,u.v),(a.add 1,.bool b)]→K a u b):
  ixa s i 2 λa=>ldc (.slice) w (a.add 0) λ(v:Sl)=>ldc (.bool) w (a.add 1) λ(v1:Bool)=>K a v v1:=by
 obtain⟨ts,g1,g2,g3⟩:=h;have hj':j<ts.length:=om;subst hi;have hn:=g1.neT hT he;obtain⟨h1,h2,h3,h4⟩:=g1.rdv;rw [gx] at h1;obtain⟨b,o,hp,hV,hc⟩:=h4 (λe=>by have:=congrArg List.length e;rw [gx] at this;simp at this;omega);obtain⟨q0,q1⟩:=qe hj';refine⟨⟨b,o,none⟩,hp,om,om,?_⟩;rw [eX];have e:o+(j:Int).toNat*2=o+2*j:=om;rw [e];have k0:w.w.cell? ((⟨b,o+2*j,none⟩:Addr).add 0)=some ts[j].1.v:=by rw [eX];exact hc _ _ q0
 have k1:w.w.cell? ((⟨b,o+2*j,none⟩:Addr).add 1)=some (.bool ts[j].2):=by rw [eX];exact hc _ _ q1
 have hb:b≠t:=λh'=>hn (by simp [Sl.blk,hp,h'])
 exact⟨_,k0,_,k1,hK _ _ _ (g3 j hj').1 (.cons ⟨k0,by rw [eX];exact hV⟩ (by rw [eX];exact hb) (.cons ⟨k1,by rw [eX];exact hV⟩ (by rw [eX];exact hb) (.nil _)))⟩
def Of(D:Nat→List Nat)(w:TW)(B:Nat)(e:TypeId)(s:Sl)(zs:List Int):Prop:=∃ts:List (Sl × Bool),Own w B e 2 s (ts.flatMap iv)∧ts.length=zs.length∧∀i (h:i<ts.length),El D w ts[i] (zs.getD i 0)∧(D (zs.getD i 0).natAbs≠[]→∀c,ts[i].1.blk=some c→B≤c∧s.blk≠some c∧c<w.w.heap.size)
section
variable {D:Nat→List Nat} {w w':TW} {B t:Nat} {e:TypeId} {s:Sl} {zs:List Int}
theorem Of.oq(h:Of D w B e s zs):Oq D w B e s zs:=by
 obtain⟨ts,h1,h2,h3⟩:=h;exact⟨ts,h1,h2,λi hi=>⟨(h3 i hi).1,λhn c hc=>((h3 i hi).2 hn c hc).2⟩⟩
theorem Of.rq(h:Of D w B e s zs):Rq D w s zs:=h.oq.rq
theorem Of.lt_blk(h:Of D w B e s zs):∀c,s.blk=some c→B≤c∧c<w.w.heap.size:=h.oq.lt_blk
theorem Of.ext(h:Of D w B e s zs)(x:Ext aa w w'):Of D w' B e s zs:=by
 obtain⟨ts,h1,h2,h3⟩:=h;exact⟨ts,h1.ext x λ_ _ h=>h,h2,λi hi=>⟨(h3 i hi).1.ext x,λhn c hc=>⟨((h3 i hi).2 hn c hc).1,((h3 i hi).2 hn c hc).2.1,Nat.lt_of_lt_of_le ((h3 i hi).2 hn c hc).2.2 x.size⟩⟩⟩
theorem Of.extT(h:Of D w B e s zs)(hT:Tz w t)(he:e≠T.dj)(x:Xt1 t w w'):Of D w' B e s zs:=by
 obtain⟨ts,h1,h2,h3⟩:=h;exact⟨ts,h1.extT hT he x,h2,λi hi=>⟨⟨(h3 i hi).1.1.extT hT x,(h3 i hi).1.2⟩,λhn c hc=>⟨((h3 i hi).2 hn c hc).1,((h3 i hi).2 hn c hc).2.1,Nat.lt_of_lt_of_le ((h3 i hi).2 hn c hc).2.2 x.size⟩⟩⟩
theorem Of.less{B':Nat}(h:Of D w B e s zs)(hB:B'≤B):Of D w B' e s zs:=by
 obtain⟨ts,h1,h2,h3⟩:=h;exact⟨ts,h1.less hB,h2,λi hi=>⟨(h3 i hi).1,λhn c hc=>⟨Nat.le_trans hB ((h3 i hi).2 hn c hc).1,((h3 i hi).2 hn c hc).2⟩⟩⟩
theorem Of.at{k:Nat}(h:Of D w B e s zs):Of D (w.at k) B e s zs:=by
 obtain⟨ts,h1,h2,h3⟩:=h;exact⟨ts,h1.at,h2,λi hi=>⟨⟨Rd.at_ (h3 i hi).1.1,(h3 i hi).1.2⟩,(h3 i hi).2⟩⟩
theorem Of.nil(D:Nat→List Nat)(w:TW)(B:Nat)(e:TypeId):Of D w B e Sl.nil []:=⟨[],Own.nil2 w B e,rfl,λi hi=>by simp at hi⟩
theorem Of.cut(h:Of D w B e s zs){n:Nat}(hn:n≤zs.length):Of D w B e (s.cut 0 n 2) (zs.take n):=by
 obtain⟨ts,h1,h2,h3⟩:=h;refine⟨ts.take n,h1.cut2 om,by simp [h2],λi hi=>?_⟩;simp only [List.length_take] at hi
 have e1:(zs.take n).getD i 0=zs.getD i 0:=by
  simp only [List.getD_eq_getElem?_getD,List.getElem?_take];rw [if_pos om]
 have e2:(s.cut 0 n 2).blk=s.blk:=by simp only [Sl.blk,mX]
 rw [e1,e2,List.getElem_take];exact h3 i om
theorem aez(hD:D 0=[]){n:Int}{N:Nat}{K:Sl→TW→Prop}(hn:n=N)(hN:N≤1099511627776)(h:∀s w',Of D w' w.w.heap.size e s (List.replicate N 0)→Ext aa w w'→K s w'):mks w n n e 32 [.slice none 0 0,.bool false] K:=
 adl hn hN λs w' h' _ e' _=>h s w' ⟨_,h',smp,λi hi=>by
  rw [uH];simp only [List.getElem_replicate];refine⟨⟨?_,rfl⟩,λhne=>absurd hD hne⟩;show Rd w' Sl.nil (D 0);rw [hD];exact Rd.nil _⟩ e'
theorem Of.set{x:Sl}{y:Bool}{z:Int}(h:Of D w B e s zs){i:Int}(hi:i=j)(hj:j<zs.length)(hz:El D w (x,y) z)(hb:D z.natAbs≠[]→∀c,x.blk=some c→B≤c∧s.blk≠some c∧c<w.w.heap.size){K:TW→Prop}(hK:∀w',Of D w' B e s (zs.set j z)→Ext (λc=>s.blk=some c) w w'→K w'):ixa s i 2 λa=>stc w a x.v λw1=>stc w1 (a.add 1) (.bool y) K:=by
 obtain⟨ts,g1,g2,g3⟩:=h;refine g1.put2 hi om λw' h' x'=>hK w' ⟨ts.set j (x,y),h',by simp [g2],λi hi=>?_⟩ x'
 simp only [List.length_set] at hi
 have key:∀(t:Sl × Bool) (q:Int),El D w t q→(D q.natAbs≠[]→∀c,t.1.blk=some c→B≤c∧s.blk≠some c∧c<w.w.heap.size)→El D w' t q∧(D q.natAbs≠[]→∀c,t.1.blk=some c→B≤c∧s.blk≠some c∧c<w'.w.heap.size):=λt q k1 k2=>
  ⟨⟨k1.1.extN x' λhne c hc=>(k2 hne c hc).2.1,k1.2⟩,λhne c hc=>⟨(k2 hne c hc).1,(k2 hne c hc).2.1,Nat.lt_of_lt_of_le (k2 hne c hc).2.2 x'.size⟩⟩
 rw [kS om];by_cases hij:j=i
 ·subst hij;rw [List.getElem_set_self,if_pos rfl];exact key _ _ hz hb
 ·rw [List.getElem_set_ne hij,if_neg (λh=>hij h.symm)];exact key _ _ (g3 i hi).1 (g3 i hi).2
end
theorem jd:T.af≠T.dj:=dcd
section
variable {w:TW} {p:Option Addr} {pz mo hg g po nu ra ro dv rc c m d k e t:Nat} {now:Int} {tab:List Int}
theorem pF{a b:Sl}{na nb:Bool}{y:Int}(hE:Eg w p [pz,mo,hg,g,po,nu,ra,ro,dv,rc,c,m,d,k,e] t now tab)(ha:Iz w a na x)(hb:Iz w b nb y)(hx:sz x.natAbs≤1048576)(hy:sz y.natAbs≤1048576)(h0:0≤now)(h1:now≤1000000000000000000):
  Ct Pg F.bF [.pointer p,.agg #[a.v,.bool na],.agg #[b.v,.bool nb]] w (λk=>k=t) [.agg [.slice,.bool]] λ(s:Sl)(n:Bool) w'=>Io w' w.w.heap.size s n (x*y)∧Eg w' p [pz,mo,hg,g,po,nu,ra,ro,dv,rc,c,m,d,k,e] t now tab:=by
 refine Ct.bF ?_;unfold Sh.bF;intro w1 e1 w2 e2 w3 e3;have e13:=((e1.trans e2).trans e3).drew;have hE:=hE.here.ext e13;have ha:=ha.here.ext e13;have hb:=hb.here.ext e13;refine hE.down11 λ_ _ _ _ _ _ _ _ _ _ _ _ _ _ _ _ _ _ _ _ _ _ E11 H11=>?_
 refine t1 hE.tz (kZ E11 ha.abs hb.abs om om h0 om) ?_;rintro s w4 x4 ⟨h4,E4⟩;have hE4:=hE.re x4 E4;refine aN (H11.extT x4).tail ?_;have y4:Xt1 t w.here w4:=e13.any.trans x4
 have hneg:∀z:Nat,z=x.natAbs*y.natAbs→∀bb:Bool,bb=(!(na == nb)&&decide (z≠0))→bb=decide (x*y<0):=by
  intro z hz bb hbb;have hxn:=ha.neg_;have hyn:=hb.neg_;obtain⟨X,hX⟩:∃X,x.natAbs=X:=⟨_,rfl⟩;obtain⟨Y,hY⟩:∃Y,y.natAbs=Y:=⟨_,rfl⟩;rw [hX] at hxn hz;rw [hY] at hyn hz;subst hbb;have hXY:(0:Int)≤(X:Int)*Y:=Int.mul_nonneg om om;have hzi:(z:Int)=(X:Int)*Y:=by rw [hz];push_cast;rfl
  rw [Bool.eq_iff_iff,Bool.and_eq_true,decide_eq_true_iff,decide_eq_true_iff];cases na<;>cases nb<;>simp at hxn hyn ⊢<;>rw [hxn,hyn]
  ·omega
  ·rw [Int.mul_neg];omega
  ·rw [Int.neg_mul];omega
  ·rw [Int.neg_mul_neg];omega
 refine j2 (λ(u:Sl)(bb:Bool) w8=>Ext aa w4 w8∧u=s∧bb=decide (x*y<0)) ?_ ?_
 ·refine aG (λh=>?_) (λh=>?_)
  ·refine c1 (dS h4.nt) ?_;rintro ok w5 e5 rfl;intro w6 e6;refine⟨e5.trans e6,rfl,hneg _ rfl _ ?_⟩;rw [h];simp
  ·intro w7 e7;refine⟨e7,rfl,hneg _ rfl _ ?_⟩;rw [h];simp
 rintro u bb w8 ⟨e8,rfl,rfl⟩;refine⟨(_,_,()),rfl,y4.trans e8.any,⟨?_,rfl⟩,(hE4.ext e8).at⟩;rw [Int.natAbs_mul];exact ((On.ext h4 e8).less e13.size).at
set_option maxHeartbeats 800000 in
theorem rW{a b:Sl}{xs ys:List Int}(hE:Eg w p [pz,mo,hg,g,po,nu,ra,ro,dv,rc,c,m,d,k,e] t now tab)(ha:Ri w a xs)(hb:Ri w b ys)(hs:Sht xs ys)(h0:0≤now)(h1:now≤1000000000000000000):
  Ct Pg F.cJ [.pointer p,a.v,b.v] w (λk=>k=t) [.one .slice] λ(s:Sl) w'=>Of (dg W64) w' w.w.heap.size T.af s (pmt xs ys)∧Eg w' p [pz,mo,hg,g,po,nu,ra,ro,dv,rc,c,m,d,k,e] t now tab:=by
 refine Ct.cJ ?_;unfold Sh.cJ;obtain⟨l1,l2,-⟩:=id hs;refine c1 (polyz_trim ha.here om) ?_;rintro _ w1 e1 rfl;refine c1 (polyz_trim (hb.here.ext e1) om) ?_;rintro _ w2 e2 rfl;have e12:=e1.trans e2;have hE2:=hE.here.ext e12;have hA:=(ha.here.ext e12).cut (Nat.zero_le _) (ao xs);have hB:=(hb.here.ext e12).cut (Nat.zero_le _) (ao ys);rw [List.drop_zero,iD] at hA hB;have hs':=hs.trim;have hpm:∀k,(pm (ae xs) (ae ys)).getD k 0=(pm xs ys).getD k 0:=λk=>fT (λi=>aT _ _) (λi=>aT _ _) k
 have hnone:=@ph xs ys;obtain⟨X,hX⟩:∃X,ae xs=X:=⟨_,rfl⟩;obtain⟨Y,hY⟩:∃Y,ae ys=Y:=⟨_,rfl⟩;rw [hX] at hA hs' hpm hnone ⊢;rw [hY] at hB hs' hpm hnone ⊢;have n1:=hA.len;have n2:=hB.len;obtain⟨ts,hA1,hA2,hA3⟩:=hA;obtain⟨k1,k2,k3⟩:=id hs';refine kT n1 n2 ?_;refine ac (λhz0=>?_) (λhz0=>?_)
 ·refine rt1 (c:=.slice) Sl.nil e12.any ⟨?_,hE2.at⟩;rw [hnone hz0];exact Of.nil _ _ _ _
 refine ab om om (ab om om ?_);obtain⟨N,hN⟩:∃N,N=X.length+Y.length-1:=⟨_,rfl⟩;refine aez (D:=dg W64) (az _) (N:=N) om om λs2 w4 h4 e4=>?_
 have hE4:=hE2.ext e4;refine j0 (λw16=>(∃l,Of (dg W64) w16 w2.w.heap.size T.af s2 l∧l.length=N∧∀k,l.getD k 0=(pm X Y).getD k 0)∧Xt1 t w2 w16∧Eg w16 p [pz,mo,hg,g,po,nu,ra,ro,dv,rc,c,m,d,k,e] t now tab) ?_ ?_
 ·refine lp1 (λM (x:Int) w5=>∃i l,x=(i:Nat)∧M=X.length-i∧i≤X.length∧Of (dg W64) w5 w2.w.heap.size T.af s2 l∧l.length=N∧(∀k,l.getD k 0=czi X Y i k)∧Xt1 t w2 w5∧Eg w5 p [pz,mo,hg,g,po,nu,ra,ro,dv,rc,c,m,d,k,e] t now tab) X.length ⟨0,_,rfl,om,om,h4,smp,λk=>by rw [uH,vQ],e4.any,hE4⟩ ?_;rintro M x w5 ⟨i,l,rfl,rfl,hi,ho,hl,gl,x5,hE5⟩;refine ac (λh=>?_) (λh=>?_)
  ·have hi':i<X.length:=om;have hzt:=hA3 i om;refine (hA1.extT (uD ts) hE2.tz x5).at2 (j:=i) rfl om λa1 _ q0 q1=>ldp q0 q1 ?_
   intro w6 e6 w7 e7;have e57:=e6.trans e7;refine j0 (λw15=>(∃l,Of (dg W64) w15 w2.w.heap.size T.af s2 l∧l.length=N∧∀k,l.getD k 0=czi X Y (i+1) k)∧Xt1 t w2 w15∧Eg w15 p [pz,mo,hg,g,po,nu,ra,ro,dv,rc,c,m,d,k,e] t now tab) ?_ ?_
   ·refine lp3 (λM (x:Int) (u:Sl) (bb:Bool) w8=>u=ts[i].1∧bb=ts[i].2∧∃j l,x=(j:Nat)∧M=Y.length-j∧j≤Y.length∧Of (dg W64) w8 w2.w.heap.size T.af s2 l∧l.length=N∧(∀k,l.getD k 0=mid X Y i j k)∧Xt1 t w2 w8∧Eg w8 p [pz,mo,hg,g,po,nu,ra,ro,dv,rc,c,m,d,k,e] t now tab) Y.length ⟨rfl,rfl,0,l,rfl,om,om,ho.ext e57,hl,λk=>by rw [gl k,vw],x5.trans e57.any,hE5.ext e57⟩ ?_;rintro M x u bb w8 ⟨rfl,rfl,j,l,rfl,rfl,hj,ho,hl,gl,x8,hE8⟩;refine ac (λh=>?_) (λh=>?_)
    ·have hj':j<Y.length:=om;have hB8:=hB.extT hE2.tz x8;refine hB8.ix (j:=j) rfl hj' λa2 tu hzu _ r0 r1=>ldp r0 r1 ?_
     intro w9 e9 w10 e10;have e810:=(e9.trans e10).drew;refine ag (y:=((i+j:Nat):Int)) ((ar om om).trans om) ?_;refine ag (y:=((i+j:Nat):Int)) ((ar om om).trans om) ?_;have hE10:=hE8.ext e810;refine (ho.ext e810).oq.ixT hE10.tz jd (j:=i+j) rfl om λa3 u4 b4 hel H=>?_
     have hzx:=(hzt.extT hE2.tz x8).ext e810;refine tM hE10.tz (pF hE10 hzx (hzu.ext e810) (hs'.one i).1 (hs'.one j).2 h0 h1) ?_;rintro r r1 w11 x11 ⟨hr,hE11⟩;refine aN (H.extT x11) ?_;have hel':Iz w11 u4 b4 (l.getD (i+j) 0):=(El.iz hel).extT hE10.tz x11;refine cl0 (num_Add hel' hr.iz (by rw [gl];exact Nat.le_trans (hs'.mid hi' j (i+j)) dcd) ?_) ?_
     ·rw [Int.natAbs_mul];have:=dt (X.getD i 0).natAbs (Y.getD j 0).natAbs;have:=(hs'.one i).1;have:=(hs'.one j).2;omega
     intro r2 r3 w12 e12' hr2;have hr2:Io w12 w11.w.heap.size r2 r3 (l.getD (i+j) 0+X.getD i 0*Y.getD j 0):=hr2;have x812:Xt1 t w8 w12:=(e810.any.trans x11).trans e12'.any;have ho12:=ho.extT hE8.tz jd x812;have hE12:=hE11.ext e12'
     have hfar:∀c,r2.blk=some c→w2.w.heap.size≤c∧s2.blk≠some c∧c<w12.w.heap.size:=λc hc=>by
      have q1:=Ow.from_ hr2.1 c hc;refine⟨Nat.le_trans (x8.trans (e810.any.trans x11)).size q1.1,λhs=>?_,q1.2⟩;have:=(ho.lt_blk c hs).2;have:=(e810.any.trans x11).size;omega
     refine ho12.set (z:=l.getD (i+j) 0+X.getD i 0*Y.getD j 0) rfl om hr2.el (λ_=>hfar) λw14 h14 e14=>?_
     have hX:∀c,s2.blk=some c→w2.w.heap.size≤c:=λc hc=>(ho12.lt_blk c hc).1
     have hE14:=hE12.young hE2 e14 hX;have x14:Xt1 t w2 w14:=Ext.mineT (x8.trans x812) e14 λc hc=>.inr (hX c hc)
     refine ab om om ⟨Y.length-(j+1),om,rfl,rfl,j+1,_,om,rfl,om,h14,by simp [hl],λk=>?_,x14,hE14⟩;rw [kS om,vx,gl,gl];by_cases h':k=i+j
     ·subst h';rfl
     ·rw [if_neg h',if_neg h']
    ·exact⟨⟨l,ho,hl,λk=>by rw [gl k,xm X Y om]⟩,x8,hE8⟩
   rintro w15 ⟨⟨l,ho,hl,gl⟩,x15,hE15⟩;exact ab om om ⟨X.length-(i+1),om,i+1,l,om,rfl,om,ho,hl,gl,x15,hE15⟩
  ·exact⟨⟨l,ho,hl,λk=>by rw [gl k,show i=X.length by omega,xA]⟩,x5,hE5⟩
 rintro w16 ⟨⟨l,ho,hl,gl⟩,x16,hE16⟩;refine c1 (polyz_trim ho.rq.ri om) ?_;rintro _ w17 e17 rfl;have hc:=(ho.cut (ao l)).ext e17;rw [iD] at hc;refine rt1 (c:=.slice) _ ((e12.any.trans x16).trans e17.any) ⟨?_,(hE16.ext e17).at⟩;rw [←td (a:=xs) (b:=ys) (l:=l) λk=>by rw [gl k,hpm k]];exact (hc.less e12.size).at
end
end
end Go.Proofs.YtpbimnlggalnfaaGreatDoor.Zg
