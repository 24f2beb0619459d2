/- A part of the proofs of this seat's laws. -/
import Derived.Test.YtpbimnlggalnfaaGreatDoorGMD
import Derived.Test.YtpbimnlggalnfaaGreatDoorGP3
import Derived.Test.YtpbimnlggalnfaaGreatDoorGP
import Derived.Test.YtpbimnlggalnfaaGreatDoorGIB
set_option linter.unusedVariables false
set_option linter.unusedSimpArgs false
set_option linter.unnecessarySimpa false
namespace Go.Proofs.YtpbimnlggalnfaaGreatDoor.Zg
open Go.RowKit
section
variable {D n x y:Nat} {ds xs:Sl}
theorem Eg.re{w w':TW}{p q:Option Addr}{bs bs':List Nat}{t:Nat}{now now':Int}{tab:List Int}(h:Eg w p bs t now tab)(e:Xt1 t w w')(h':Eg w' q bs' t now' tab):Eg w' p bs t now' tab:=by
 obtain⟨_,_,_,_,m,d,hT⟩:=h';exact h.set e hT
theorem rO{x k:Nat}:sz (x*2^k)≤sz x+k/64+1:=by
 refine cQ ?_;have h1:=gN x
 have h2:2^k≤W64^(k/64+1):=by
  rw [←show 2^(64*(k/64+1))=W64^(k/64+1) from by rw [Nat.pow_mul]];exact Nat.pow_le_pow_right dcd om
 rw [Nat.add_assoc,Nat.pow_add];exact Nat.lt_of_lt_of_le (Nat.mul_lt_mul_of_pos_right h1 (Nat.pow_pos dcd)) (Nat.mul_le_mul_left _ h2)
theorem rP{k:Nat}:sz (2^k)≤k/64+2:=by
 have h1:=@rO 1 k;rw [Nat.one_mul] at h1;have:sz 1≤1:=cQ dcd;omega
theorem iA{x y:Nat}:sz (x/y)≤sz x:=aq (Nat.div_le_self _ _)
theorem lE{x y:Nat}:sz (x-y)≤sz x:=aq (Nat.sub_le _ _)
theorem ni:sz (x%y)≤sz x:=aq (Nat.mod_le _ _)
theorem recip_power{w:TW}(hn:n≤1048576):Ct Pg F.fQ [.int .i64 n] w aa [.one .slice] λ(s:Sl) w'=>On w' w.w.heap.size s (2^n):=by
 refine Ct.fQ ?_;unfold Sh.fQ;refine c1 (limb_One (y:=1) dcd) λs w1 e1 h1=>?_
 refine c1 (limb_Shl h1.nt (by have:sz 1≤1:=cQ dcd;omega)) λs2 w2 e2 h2=>?_
 rw [show min ((n:Int)).toNat 1048576=n by omega,Nat.one_mul] at h2;exact rt1 (c:=.slice) _ (e1.trans e2) (h2.less e1.size).at
section
variable {w:TW} {p:Option Addr} {rc c m d k e t:Nat} {now:Int} {tab:List Int}
theorem vp(hE:Eg w p [rc,c,m,d,k,e] t now tab){a b:Sl}(ha:Nt w a x)(hb:Nt w b y)(hx:sz x≤1073741824)(hy:sz y≤1073741824)(h0:0≤now)(h1:now≤1152921504606846976){K:Sl→TW→Prop}(hK:∀s w',Xt1 t w w'→On w' w.w.heap.size s (x*y)→Eg w' p [rc,c,m,d,k,e] t now tab→K s w'):
  nck p λa1=>ldc (.ptr) w a1 λ(v:Option Addr)=>nck v λa2=>ldc (.ptr) w a2 λ(v1:Option Addr)=>cl Pg F.au [.pointer v1,a.v,b.v] w [.one .slice] K:=by
 refine hE.down λq1 E1=>E1.down λq2 E2=>?_
 refine t1 E2.tz (kZ E2 ha hb hx hy h0 h1) ?_;rintro s w1 x1 ⟨g1,g2⟩;exact hK s w1 x1 g1 (hE.re x1 g2)
theorem xX(hE:Eg w p [rc,c,m,d,k,e] t now tab)(hd:Nt w ds D)(hx:Nt w xs x)(hn:n≤1048576)(hD:sz D≤65536)(hS:sz x≤65536)(h0:0≤now)(h1:now≤1152921504606846976):
  Ct Pg F.dH [.pointer p,ds.v,xs.v,.int .i64 n] w (λk=>k=t) [.one .slice] λ(s:Sl) w'=>(∃z,On w' w.w.heap.size s z∧sz z≤262144)∧Eg w' p [rc,c,m,d,k,e] t now tab:=by
 refine Ct.dH ?_;unfold Sh.dH;have hE:=hE.here;have hd:=hd.here;have hx:=hx.here;refine vp hE hd hx om om h0 h1 λs w1 x1 hp hE1=>?_
 have hx1:=hx.extT hE.tz x1;have l1:=dt D x;refine c1 (recip_power hn) λs1 w2 e2 htop=>?_
 have l2:=@rP n;have hp2:=On.nt (Ow.ext hp e2);refine c2 (limb_Sub htop.nt hp2 om) ?_;rintro s2 ok w3 e3 ⟨rfl,hr⟩;have e13:=e2.trans e3;have hx3:=hx1.ext e13;have hE3:=hE1.ext e13;have z1:w.w.heap.size≤w1.w.heap.size:=x1.size;refine ac (λhle=>?_) (λhle=>?_)
 ·have l3:=@lE (2^n) (D*x);refine vp hE3 hx3 hr.nt om om h0 h1 λs3 w4 x4 hq hE4=>?_
  have l4:=dt x (2^n-D*x);refine c1 (limb_Shr hq.nt om) λs4 w5 e5 hs=>?_
  have l5:=@iA (x*(2^n-D*x)) (2^min ((n:Int)).toNat 1048576);have hx5:=(hx3.extT hE3.tz x4).ext e5;refine c1 (limb_Add hx5 hs.nt om om) λs5 w6 e6 hz=>?_
  have l6:=kI x (x*(2^n-D*x)/2^min ((n:Int)).toNat 1048576);have ee:=((x1.trans e13.any).trans x4).trans (e5.trans e6).any;refine rt1 (c:=.slice) _ ee ⟨⟨_,(hz.less ?_).at,om⟩,((hE4.ext e5).ext e6).at⟩;exact Nat.le_trans z1 (Nat.le_trans e13.size (Nat.le_trans x4.size e5.size))
 ·have hp3:=hp2.ext e3;refine c2 (limb_Sub hp3 (On.nt (Ow.ext htop e3)) om) ?_;rintro s6 _ w7 e7 ⟨-,hr7⟩;have hx7:=hx3.ext e7;have hE7:=hE3.ext e7;have l3:=@lE (D*x) (2^n);refine vp hE7 hx7 hr7.nt om om h0 h1 λs7 w8 x8 hq hE8=>?_
  have l4:=dt x (D*x-2^n);refine c1 (limb_Shr hq.nt om) λs8 w9 e9 hs=>?_
  have l5:=@iA (x*(D*x-2^n)) (2^min ((n:Int)).toNat 1048576);refine c1 (limb_One (y:=1) dcd) λs9 w10 e10 ho=>?_
  have l0:sz 1≤1:=cQ dcd;refine c1 (limb_Add (On.nt (Ow.ext hs e10)) ho.nt om om) λs10 w11 e11 hz=>?_
  have hx11:=(((hx7.extT hE7.tz x8).ext e9).ext e10).ext e11;refine c2 (limb_Sub hx11 hz.nt om) ?_;rintro s11 ok2 w12 e12 ⟨rfl,hy⟩;have e812:=((e9.trans e10).trans e11).trans e12;have ee:=(((x1.trans e13.any).trans e7.any).trans x8).trans e812.any;have hE12:=(((hE8.ext e9).ext e10).ext e11).ext e12;refine aG (λh=>?_) (λh=>?_)
  ·exact rt1 (c:=.slice) Sl.nil ee ⟨⟨0,On.nil _ _,by simp [sz,az]⟩,hE12.at⟩
  ·refine rt1 (c:=.slice) _ ee ⟨⟨_,(hy.less ?_).at,Nat.le_trans lE om⟩,hE12.at⟩;exact Nat.le_trans z1 (Nat.le_trans e13.size (Nat.le_trans e7.size (Nat.le_trans x8.size (Nat.le_trans e9.size (Nat.le_trans e10.size e11.size)))))
theorem wq{C:Nat}(hE:Eg w p [rc,c,m,d,k,e] t now tab)(hd:Nt w ds D)(hx:On w C xs x)(hC:C≤w.w.heap.size)(hD0:0<D)(hn:n≤1048576)(hD:sz D≤65536)(hS:sz x≤262144)(h0:0≤now)(h1:now≤1152921504606846976):
  Ct Pg F.cY [.pointer p,ds.v,xs.v,.int .i64 n] w (λk=>k=t) [.one .slice] λ(s:Sl) w'=>On w' C s (2^n/D)∧Eg w' p [rc,c,m,d,k,e] t now tab:=by
 refine Ct.cY ?_;unfold Sh.cY;have hE:=hE.here;have hd:=hd.here;have hx:On w.here C xs x:=hx.at;refine c1 (recip_power hn) λs w1 e1 htop=>?_
 have l2:=@rP n;have hx1:On w1 C xs x:=Ow.ext hx e1;refine vp (hE.ext e1) (hd.ext e1) hx1.nt om om h0 h1 λs1 w2 x2 hp hE2=>?_
 have l1:=dt D x;have hT1:=(hE.ext e1).tz;have hd2:=(hd.ext e1).extT hT1 x2;have hx2:=hx1.extT hT1 x2;have htop2:=htop.extT hT1 x2;have ee:=e1.any.trans x2;have z1:w.w.heap.size≤w1.w.heap.size:=e1.size;have z2:w.w.heap.size≤w2.w.heap.size:=ee.size;have hp2:On w2 C s1 (D*x):=hp.less (Nat.le_trans hC z1);refine j0 (λw13=>Ext aa w2 w13) ?_ ?_
 ·refine lp3 (λM (a q:Sl) (i:Int) w3=>∃(j y:Nat),i=j∧M=8-j∧j≤8∧On w3 C a y∧On w3 C q (D*y)∧sz y≤262144+j∧sz (D*y)≤393216+j∧Ext aa w2 w3) 8 ⟨0,x,rfl,rfl,om,hx2,hp2,om,om,Ext.refl _ _⟩ ?_;rintro M a q i w3 ⟨j,y,rfl,rfl,hj,ha,hq,hsy,hsq,e3⟩;refine ac (λh=>?_) (λh=>e3);refine j2 (λa q w12=>∃y,On w12 C a y∧On w12 C q (D*y)∧sz y≤262144+(j+1)∧sz (D*y)≤393216+(j+1)∧Ext aa w2 w12) ?_ ?_
  ·refine c2 (limb_Sub (htop2.nt.ext e3) hq.nt om) ?_;rintro s2 ok w4 e4 ⟨rfl,hr⟩;have hd4:=(hd2.ext e3).ext e4;have ha4:On w4 C a y:=Ow.ext ha e4;have hq4:On w4 C q (D*y):=Ow.ext hq e4;have e24:=e3.trans e4;have z3:=e3.size;refine aG (λh'=>?_) (λh'=>?_)
   ·simp only [Bool.not_eq_true',decide_eq_false_iff_not,Nat.not_le] at h';refine c1 (limb_One (y:=1) dcd) λs3 w5 e5 ho=>?_
    refine c2 (limb_Sub (ha4.nt.ext e5) ho.nt om) ?_;rintro s4 _ w6 e6 ⟨-,ha6⟩;refine c2 (limb_Sub ((hq4.nt.ext e5).ext e6) ((hd4.ext e5).ext e6) om) ?_;rintro s5 _ w7 e7 ⟨-,hq7⟩;refine⟨y-1,(Ow.ext ha6 e7).less ?_,?_,?_,?_,(e24.trans e5).trans (e6.trans e7)⟩
    ·exact Nat.le_trans hC (Nat.le_trans z2 (Nat.le_trans e24.size e5.size))
    ·rw [Nat.mul_sub,Nat.mul_one];exact hq7.less (Nat.le_trans hC (Nat.le_trans z2 (Nat.le_trans e24.size (Nat.le_trans e5.size e6.size))))
    ·have:=@lE y 1;omega
    ·rw [Nat.mul_sub,Nat.mul_one];have:=@lE (D*y) D;omega
   ·simp only [Bool.not_eq_false',decide_eq_true_eq] at h';refine c1 (limb_Cmp hr.nt hd4) ?_;rintro _ w8 e8 rfl;have hE8:=(hE2.ext e24).ext e8;refine ac (λh2=>?_) (λh2=>?_)
    ·have h2:=ef.1 h2
     have:2^n/D=y:=by
      rw [Nat.div_eq_iff hD0];rw [Nat.mul_comm y D];omega
     rw [this];exact rt1 (c:=.slice) _ (ee.trans (e24.trans e8).any) ⟨On.at (Ow.ext ha4 e8),hE8.at⟩
    ·refine c1 (limb_One (y:=1) dcd) λs6 w9 e9 ho=>?_
     have l0:sz 1≤1:=cQ dcd;have e49:=e8.trans e9;refine c1 (limb_Add (ha4.nt.ext e49) ho.nt om om) λs7 w10 e10 ha7=>?_
     refine c1 (limb_Add ((hq4.nt.ext e49).ext e10) ((hd4.ext e49).ext e10) om om) λs8 w11 e11 hq8=>?_
     have k1:=kI y 1;have k2:=kI (D*y) D;have k0:1≤262144+j:=om;refine⟨y+1,(Ow.ext ha7 e11).less ?_,?_,om,?_,(e24.trans e49).trans (e10.trans e11)⟩
     ·exact Nat.le_trans hC (Nat.le_trans z2 (Nat.le_trans e24.size e49.size))
     ·rw [Nat.mul_add,Nat.mul_one];exact hq8.less (Nat.le_trans hC (Nat.le_trans z2 (Nat.le_trans e24.size (Nat.le_trans e49.size e10.size))))
     ·rw [Nat.mul_add,Nat.mul_one];omega
  rintro a q w12 ⟨y,ha,hq,hs1,hs2,e12⟩;exact ab om om ⟨8-(j+1),om,j+1,y,om,rfl,om,ha,hq,hs1,hs2,e12⟩
 intro w13 e13;have hE13:=hE2.ext e13;refine hE13.down λq1 E1=>?_
 refine t3 E1.tz (mH E1 (htop2.nt.ext e13) (hd2.ext e13) om) ?_;rintro s9 _ _ w14 x14 ⟨g1,-,-,g4⟩;refine rt1 (c:=.slice) _ ((ee.trans e13.any).trans x14) ⟨(g1.less ?_).at,(hE13.re x14 g4).at⟩;exact Nat.le_trans hC (Nat.le_trans z2 e13.size)
end
end
section
section
variable {w:TW} {p:Option Addr} {dv rc c m d k e t:Nat} {now:Int} {tab:List Int}
theorem wH{a b:Sl}{x y:Nat}(hE:Eg w p [dv,rc,c,m,d,k,e] t now tab)(ha:Nt w a x)(hb:Nt w b y)(hs:sz x≤1048576∧(sz y≤3∨sz x≤sz y+2)):
  Ct Pg F.ay [.pointer p,a.v,b.v] w (λk=>k=t) [.one .slice,.one .slice,.one (.int .i64)] λ(q r:Sl)(err:Int) w'=>On w' w.w.heap.size q (x/y)∧On w' w.w.heap.size r (if y=0 then 0 else x%y)∧err=(if y=0 then 2 else 0:Nat)∧Eg w' p [dv,rc,c,m,d,k,e] t now tab:=by
 refine Ct.ay ?_;unfold Sh.ay;have hE:=hE.here;have ha:=ha.here;have hb:=hb.here;obtain⟨la,hla,rfl⟩:=ha;obtain⟨lb,hlb,rfl⟩:=hb;refine c1 (api_Nat_Len hla) ?_;rintro _ w1 e1 rfl;refine c1 (api_Nat_Len (hlb.ext e1)) ?_;rintro _ w2 e2 rfl;have e:=e1.trans e2;have ha:=(hla.ext e).nt;have hb:=(hlb.ext e).nt;have hE2:=hE.ext e;obtain⟨x,hxe⟩:∃x,vl W64 la=x:=⟨_,rfl⟩;obtain⟨y,hye⟩:∃y,vl W64 lb=y:=⟨_,rfl⟩;rw [hxe] at ha hs ⊢;rw [hye] at hb hs ⊢;refine aG (λh=>?_) (λh=>?_)
 ·simp only [beq_iff_eq] at h
  have hy:y=0:=by
   have:=gN y;rw [show sz y=0 by omega,Nat.pow_zero] at this;omega
  subst hy;exact rt3 (c:=.slice) (d:=.slice) (e:=.int .i64) Sl.nil Sl.nil 2 e.any ⟨by rw [Nat.div_zero];exact On.nil _ _,On.nil _ _,rfl,hE2.at⟩
 have hy0:y≠0:=λh'=>by subst h';simp [sz,az] at h
 have hsy:1≤sz y:=by simp only [beq_eq_false_iff_ne,ne_eq] at h;omega
 rw [if_neg hy0,if_neg hy0]
 have tab7:∀{K:Int→Prop} {i:Nat},(∀v,(i=3→4≤v∧v≤1024)→True→K v)→(i=3)→nck p λa1=>
   ldc (.ptr) w2 a1 λ(v:Option Addr)=>
   nck v λa2=>
   ldc (.ptr) w2 a2 λ(v1:Option Addr)=>
   nck v1 λa3=>
   ldc (.ptr) w2 a3 λ(v2:Option Addr)=>
   nck v2 λa4=>
   ldc (.ptr) w2 a4 λ(v3:Option Addr)=>
   nck v3 λa5=>
   ldc (.ptr) w2 a5 λ(v4:Option Addr)=>
   nck v4 λa6=>
   ldc (.ptr) w2 a6 λ(v5:Option Addr)=>
   nck v5 λa7=>
   ldc (.ptr) w2 a7 λ(v6:Option Addr)=>
   nck v6 λa8=>
   ldc (.int .i64) w2 ((a8.add 3).add i) K:=by
  intro K i hK hi;refine hE2.down λq1 E1=>E1.down λq2 E2=>E2.down λq3 E3=>E3.down λq4 E4=>E4.down λq5 E5=>E5.down λq6 E6=>E6.down λq7 E7=>?_
  have hq:q7=some ⟨t,0,none⟩:=E7.1;subst hq;obtain⟨_,_,hTab,_,m6,d6,hT⟩:=E7;obtain⟨r0,r1,r2,r3,r4,r5,r6,r7,r8,r9,r10,rfl,k0,k1,k2,k3,k4,-⟩:=hTab;subst hi;exact ah (hT.tabAt (i:=3) rfl (hK _ (λ_=>k3) trivial))
 refine j1 (λ(z:Bool) w3=>w3=w2∧z=true) ?_ ?_
 ·refine ac (λh=>⟨rfl,rfl⟩) (λh=>?_);refine tab7 (i:=3) (λv hv _=>?_) rfl;have hv:=hv rfl;refine ac (λh=>⟨rfl,rfl⟩) (λh2=>?_);refine ab om om (ab om om ?_);exact tab7 (i:=3) (λv hv _=>⟨rfl,decide_eq_true (by have:=hv rfl;omega)⟩) rfl
 rintro z w2' ⟨rfl,rfl⟩;refine aQ rfl ?_;refine hE2.down λq1 E1=>E1.down λq2 E2=>?_
 refine t3 E2.tz (mH E2 ha hb hs.1) ?_;rintro s s1 _ w3 x3 ⟨g1,g2,g3,g4⟩;rw [if_neg hy0] at g2 g3;exact rt3 (c:=.slice) (d:=.slice) (e:=.int .i64) _ _ _ (e.any.trans x3) ⟨(g1.less e.size).at,(g2.less e.size).at,g3,(hE2.re x3 g4).at⟩
end
def mB(Q:Nat→Nat→Prop):Prop:=∀{w:TW} {p:Option Addr} {dv rc c m d k e t:Nat} {now:Int} {tab:List Int} {a b:Sl} {x y:Nat},Eg w p [dv,rc,c,m,d,k,e] t now tab→Nt w a x→Nt w b y→Q x y→0≤now→now≤1000000000000000000→
 Ct Pg F.ay [.pointer p,a.v,b.v] w (λk=>k=t) [.one .slice,.one .slice,.one (.int .i64)] λ(q r:Sl)(err:Int) w'=>On w' w.w.heap.size q (x/y)∧On w' w.w.heap.size r (if y=0 then 0 else x%y)∧err=(if y=0 then 2 else 0:Nat)∧Eg w' p [dv,rc,c,m,d,k,e] t now tab
def ng(Q:Nat→Nat→Prop):Prop:=∀{w:TW} {p:Option Addr} {dv rc c m d k e t:Nat} {now:Int} {tab:List Int} {a b:Sl} {x y:Nat},Eg w p [dv,rc,c,m,d,k,e] t now tab→Nt w a x→Nt w b y→Q x y→0≤now→now≤1000000000000000000→
 Ct Pg F.eJ [.pointer p,a.v,b.v] w (λk=>k=t) [.one .slice,.one (.int .i64)] λ(q:Sl)(err:Int) w'=>On w' w.w.heap.size q (if y=0∨x%y≠0 then 0 else x/y)∧err=(if y=0 then 2 else if x%y=0 then 0 else 5:Nat)∧Eg w' p [dv,rc,c,m,d,k,e] t now tab
theorem pw{Q:Nat→Nat→Prop}(hD:mB Q):ng Q:=by
 intro w p dv rc c m d k e t now tab a b x y hE ha hb hq h0 h1;refine Ct.eJ ?_;unfold Sh.eJ;refine t3 hE.here.tz (hD hE.here ha.here hb.here hq h0 h1) ?_;rintro s s1 er w1 x1 ⟨g1,g2,g3,g4⟩;by_cases hy:y=0
 ·subst hy;subst g3;refine aQ smp ?_;exact rt2 (c:=.slice) (d:=.int .i64) Sl.nil _ x1 ⟨by rw [if_pos (.inl rfl)];exact On.nil _ _,rfl,g4.at⟩
 ·rw [if_neg hy] at g2 g3;subst g3;refine ap smp ?_;refine c1 (dS g2.nt) ?_;rintro _ w2 e2 rfl;by_cases hr:x%y=0
  ·refine ap (by simp [hr]) ?_;exact rt2 (c:=.slice) (d:=.int .i64) _ 0 (x1.trans e2.any) ⟨by rw [if_neg (by simp [hy,hr])];exact (On.ext g1 e2).at,by rw [if_neg hy,if_pos hr];rfl,(g4.ext e2).at⟩
  ·refine aQ (by simp [hr]) ?_;exact rt2 (c:=.slice) (d:=.int .i64) Sl.nil 5 (x1.trans e2.any) ⟨by rw [if_pos (.inr hr)];exact On.nil _ _,by rw [if_neg hy,if_neg hr];rfl,(g4.ext e2).at⟩
abbrev yC(x y:Nat):Prop:=sz x≤1048576∧(sz y≤3∨sz x≤sz y+2)
theorem oN:mB yC:=λhE ha hb hs _ _=>wH hE ha hb hs
end
section
variable {w:TW} {p:Option Addr} {t:Nat} {now:Int} {tab:List Int}
theorem Eg.downK{bs:List Nat}{b:Nat}(h:Eg w p (b::bs) t now tab){K:Addr→Option Addr→Prop}(hK:∀q,Eg w q bs t now tab→(∀w',Ext aa w w'→w'.w.cell? ⟨b,0,none⟩=some (.pointer q))→K ⟨b,0,none⟩ q):nck p λa2=>ldc (.ptr) w a2 λ(v:Option Addr)=>K a2 v:=by
 obtain⟨a,b1,c,g,m,d,h⟩:=h;obtain⟨rfl,hV,q,h3,h4⟩:=a;refine ah ⟨q,h3,hK q ⟨h4,λc hc=>b1 c (List.mem_cons_of_mem _ hc),c,g,m,d,h⟩ λw' x=>?_⟩;exact (World.cell?_of_block (x.block b (World.block_lt_of_cell? w.w _ h3) (λh=>h) (.inr hV))).trans h3
theorem xR(x:Nat):sz x≤bl x/64+1:=by
 refine cQ (Nat.lt_of_lt_of_le (fr x) ?_);rw [show W64^(bl x/64+1)=2^(64*(bl x/64+1)) by rw [Nat.pow_mul]];exact Nat.pow_le_pow_right dcd om
def wd(K:Nat)(p:Option Addr)(bs:List Nat)(t:Nat)(tab:List Int):Prop:=∀{w:TW} {now:Int} {s:Sl} {D n:Nat},Eg w p bs t now tab→Nt w s D→0<D→bl D≤n+1→n≤1048576→0≤now→now+(n+1-bl D:Nat)≤1152921504606846976→n+1-bl D<K→
 Ct Pg F.bM [.pointer p,s.v,.int .i64 n] w (λk=>k=t) [.one .slice] λ(s:Sl) w'=>On w' w.w.heap.size s (2^n/D)∧Eg w' p bs t now tab
theorem pR{p:Option Addr}{rc c m d k e t:Nat}{tab:List Int}:∀K,wd K p [rc,c,m,d,k,e] t tab
 | 0=>λ_ _ _ _ _ _ _ h=>by omega
 | K+1=>by
  have hI:wd K p [rc,c,m,d,k,e] t tab:=@pR p rc c m d k e t tab K;rename_i w now ds D n;intro hE hd hD0 hb hn h0 h1 hK;refine Ct.bM ?_;unfold Sh.bM;have hE:=hE.here;have hd:=hd.here;have hsD:=xR D;have bD:0<bl D:=nO hD0;obtain⟨G,hG⟩:∃G,n+1-bl D=G:=⟨_,rfl⟩;rw [hG] at h1 hK;refine c1 (i6 hd om) ?_;rintro _ w1 e1 rfl;refine fV (ag (y:=(G:Int)) (by rw [ar (x:=(n:Int)-(bl D:Nat)) om om,ar om om];omega) ?_);have hE1:=hE.ext e1;have hd1:=hd.ext e1;refine j1 (λ(x:Bool) w2=>w2=w1∧(x=false→65≤G)) ?_ ?_
  ·refine hE1.down λq1 E1=>E1.down λq2 E2=>E2.down λq3 E3=>E3.down λq4 E4=>E4.down λq5 E5=>E5.down λq6 E6=>?_
   have hq:q6=some ⟨t,0,none⟩:=E6.1;subst hq;obtain⟨_,_,hTab,_,m6,d6,hT⟩:=E6;obtain⟨r0,r1,r2,r3,r4,r5,r6,r7,r8,r9,r10,rfl,-⟩:=hTab;refine ah (hT.tabAt (i:=4) rfl ?_);refine ac (λh=>⟨rfl,λh=>(by cases h)⟩) (λh=>⟨rfl,λh=>?_⟩);rw [decide_eq_false_iff_not] at h;omega
  rintro x w1 ⟨rfl,hx⟩;cases x with
  | true=>
   refine aQ rfl ?_;refine hE1.drew.downK λq1 E1 hk=>?_
   refine c1 (recip_power hn) λs w3 e3 hs=>?_
   have l2:=@rP n;refine kG (hk w3 e3) ?_;have e13:Ext aa w.here w3:=e1.drew.trans e3;refine t3 (E1.ext e3).tz (mH (E1.ext e3) hs.nt ((Nt.drew hd1).ext e3) om) ?_;rintro s1 _ _ w4 x4 ⟨g1,-,-,g4⟩;exact rt1 (c:=.slice) _ (e13.any.trans x4) ⟨(g1.less e13.size).at,((hE1.drew.ext e3).re x4 g4).at⟩
  | false=>
   have hG65:=hx rfl;refine ap rfl ?_;refine hE1.down λq1 E1=>E1.down λq2 E2=>E2.down λq3 E3=>E3.down λq4 E4=>E4.down λq5 E5=>E5.down λq6 E6=>?_
   have hq:q6=some ⟨t,0,none⟩:=E6.1;subst hq;obtain⟨_,_,_,_,m6,d6,hT⟩:=E6;clear E1 E2 E3 E4 E5;refine ah (t1 hT.tz (kK hT h0 om) λ_ w2 x2 hT2=>?_);have hE2:Eg w2 p [rc,c,m,d,k,e] t (now+1) tab:=hE1.set x2 hT2;have hd2:=hd1.extT hT.tz x2;have e2:=e1.any.trans x2;clear hT2 hT m6 d6;refine jb (x:=G) (y:=2) rfl rfl om dcd ?_;obtain⟨H,hH⟩:∃H,G/2+4=H:=⟨_,rfl⟩;refine ag (y:=(H:Int)) (by rw [ar om om];omega) ?_;refine c1 (i6 hd2 om) ?_;rintro _ w3 e3 rfl;obtain⟨C,hC⟩:∃C,bl D-H-4=C:=⟨_,rfl⟩;refine ab om om (ab om om (ag (y:=(C:Int)) (by split<;>omega) ?_));have hd3:=hd2.ext e3;refine c1 (limb_Shr hd3 om) λs3 w4 e4 hs=>?_
   rw [show min ((C:Int)).toNat 1048576=C by omega] at hs;obtain⟨S,hS⟩:∃S,D/2^C=S:=⟨_,rfl⟩;rw [hS] at hs
   have hbS:bl S=bl D-C:=by
    rcases Nat.eq_zero_or_pos C with h|h
    ·subst h;rw [Nat.pow_zero,Nat.div_one] at hS;rw [hS];rfl
    ·have h2:2^C≤D:=Nat.le_trans (Nat.pow_le_pow_right dcd om) (qG hD0);have:=nN h2;rw [hS] at this;omega
   have hS0:0<S:=by
    rcases Nat.eq_zero_or_pos S with h|h
    ·rw [h,dX] at hbS;omega
    ·exact h
   have hsS:=xR S;refine c1 (i6 hs.nt om) ?_;rintro _ w5 e5 rfl;obtain⟨M,hM⟩:∃M,bl S-1+H=M:=⟨_,rfl⟩;refine ab om om (ag (y:=(M:Int)) (by rw [ar om om];omega) ?_);have e25:=(e3.trans e4).trans e5;have hE5:=hE2.ext e25;have hs5:On w5 w3.w.heap.size s3 S:=Ow.ext hs e5;have hd5:=hd3.ext (e4.trans e5);refine t1 hE5.tz (hI hE5 hs5.nt hS0 om om om om om) ?_;rintro s4 w6 x6 ⟨hx4,hE6⟩;have hd6:=hd5.extT hE5.tz x6;have l4:sz (2^M/S)≤M/64+2:=Nat.le_trans iA rP;refine ab om om (ab om om (fV ?_));refine c1 (limb_Shl hx4.nt om) λs5 w7 e7 hx5=>?_
   have l5:=@rO (2^M/S) (min (if (n:Int)-M-C>0 then (n:Int)-M-C else 0).toNat 1048576);generalize 2^M/S*2^min (if (n:Int)-M-C>0 then (n:Int)-M-C else 0).toNat 1048576=X5 at hx5 l5;refine ab om om (ab om om (fV ?_));refine c1 (limb_Shr hx5.nt om) λs6 w8 e8 hx6=>?_
   have l6:sz (X5/2^min (if (M:Int)+C-n>0 then (M:Int)+C-n else 0).toNat 1048576)≤sz X5:=iA;generalize X5/2^min (if (M:Int)+C-n>0 then (M:Int)+C-n else 0).toNat 1048576=X6 at hx6 l6;have e68:=e7.trans e8;have hE8:=hE6.ext e68;have hd8:=hd6.ext e68;refine t1 hE8.tz (xX hE8 hd8 hx6.nt hn om om om om) ?_;rintro s7 w9 x9 ⟨⟨Y,hy,l7⟩,hE9⟩;have hd9:=hd8.extT hE8.tz x9;have e29:=((e2.trans e25.any).trans x6).trans ((e68.any).trans x9);refine hE9.down λq1 E1=>E1.down λq2 E2=>E2.down λq3 E3=>E3.down λq4 E4=>E4.down λq5 E5=>E5.down λq6 E6=>?_
   have hq:q6=some ⟨t,0,none⟩:=E6.1;subst hq;obtain⟨_,_,_,_,m6,d6,hT⟩:=E6;clear E1 E2 E3 E4 E5;refine ah (t1 hT.tz (kJ hT h0 om) λ_ w10 x10 hT10=>?_);have hE10:Eg w10 p [rc,c,m,d,k,e] t now tab:=hE9.set x10 hT10;have z8:w.w.heap.size≤w8.w.heap.size:=(((e2.trans e25.any).trans x6).trans e68.any).size;have hy10:On w10 w.w.heap.size s7 Y:=(hy.less z8).extT hT.tz x10;refine t1 hE10.tz (wq hE10 (hd9.extT hT.tz x10) hy10 (e29.trans x10).size hD0 hn om l7 h0 om) ?_;rintro s8 w11 x11 ⟨g1,g2⟩;exact rt1 (c:=.slice) _ ((e29.trans x10).trans x11) ⟨g1.at,g2.at⟩
theorem wt{rc c m d k e:Nat}{s:Sl}{D n:Nat}(hE:Eg w p [rc,c,m,d,k,e] t now tab)(hd:Nt w s D)(hD:sz D≤1099511627776)(hn:n≤1048576)(h0:0≤now)(h1:now+1048577≤1152921504606846976):
  Ct Pg F.cZ [.pointer p,s.v,.int .i64 n] w (λk=>k=t) [.one .slice,.one (.int .i64)] λ(s:Sl)(_:Int) w'=>On w' w.w.heap.size s (2^n/D)∧Eg w' p [rc,c,m,d,k,e] t now tab:=by
 refine Ct.cZ ?_;unfold Sh.cZ;have hE:=hE.here;have hd:=hd.here;refine c1 (dS hd) ?_;rintro _ w1 e1 rfl;refine aG (λh=>?_) (λh=>?_)
 ·simp only [beq_iff_eq,decide_eq_true_eq] at h;subst h;refine rt2 (c:=.slice) (d:=.int .i64) Sl.nil 2 e1.any ⟨?_,(hE.ext e1).at⟩;rw [Nat.div_zero];exact On.nil _ _
 have hD0:0<D:=Nat.pos_of_ne_zero λh'=>by subst h';simp at h
 refine j1 (λ(x:Bool) w2=>w2=w1∧x=false) ?_ ?_
 ·refine ap smp ⟨rfl,by simp;omega⟩
 rintro x w2 ⟨rfl,rfl⟩;refine ap rfl ?_;refine c1 (i6 (hd.ext e1) hD) ?_;rintro _ w3 e3 rfl;have bD:=nO hD0;have hsD:bl D≤64*sz D:=uF D;refine ab om om ?_;have e13:=e1.trans e3;refine ac (λh=>?_) (λh=>?_)
 ·refine rt2 (c:=.slice) (d:=.int .i64) Sl.nil 0 e13.any ⟨?_,(hE.ext e13).at⟩;have:2^n<D:=Nat.lt_of_lt_of_le (Nat.pow_lt_pow_right dcd om) (qG hD0);rw [Nat.div_eq_of_lt this];exact On.nil _ _
 refine c1 (limb_Norm (hd.ext e13) hD) λs4 w4 e4 hs=>?_
 have hE4:=hE.ext (e13.trans e4);refine t1 hE4.tz (pR _ hE4 hs.nt hD0 om hn h0 om (Nat.lt_succ_self _)) ?_;rintro s5 w5 x5 ⟨g1,g2⟩;exact rt2 (c:=.slice) (d:=.int .i64) _ 0 ((e13.trans e4).any.trans x5) ⟨(g1.less (e13.trans e4).size).at,g2.at⟩
end
section
variable {a b n q r x y:Nat} {K:Sl→TW→Prop}
theorem adZ{X N:Int}{K:Int→Prop}(hX:X=x)(hN:N=n)(hn:n≤64)(hx:x*2^n≤9223372036854775807)(h:K ((x*2^n:Nat):Int)):jv .i64 X N K:=by
 subst hX hN;refine⟨om,?_⟩;rw [Int.toNat_natCast,Nat.min_eq_left (by simpa [IntKind.bits] using hn),show ((x:Int)*(2:Int)^n)=((x*2^n:Nat):Int) by simp]
 have:IntKind.i64.wrap ((x*2^n:Nat):Int)=((x*2^n:Nat):Int):=by
  generalize x*2^n=z at*;exact ar om om
 rw [this];exact h
theorem qA{w:TW}{s r:Sl}(hs:Nt w s x)(hr:Nt w r y)(hx:sz x≤549755813888)(hy:sz y≤549755813888)(hn:n≤16384)(hK:∀z w',Ext aa w w'→On w' w.w.heap.size z (x+W64^n*y)→K z w'):
  nwb w [s.v,r.v] T.bP λb w1=>cl Pg F.cq [.int .i64 (n:Int),.slice (some ⟨b,0,none⟩) 2 2] w1 [.one .slice] K:=by
 intro b w1 hw;have e1:Ext aa w w1:=hw.ext _
 have hR:Rs w1 ⟨some ⟨b,0,none⟩,2,2⟩ [x,y]:=by
  refine⟨[s,r],⟨smp,Nat.le_refl _,by show 2≤maxLen;decide,λ_=>⟨b,0,rfl,λhV=>?_,λj v hj=>?_⟩⟩,rfl,λi u hi=>?_⟩
  ·rw [hw.V] at hV;have:=w.lt _ hV;have:=hw.at_;omega
  ·rw [cell_of_row w1.w b (0+j) _ T.bP (0,0) hw.heap];simpa using hj
  ·match i,hi with
   | 0,hi=>simp at hi;subst hi;exact hs.ext e1
   | 1,hi=>simp at hi;subst hi;exact hr.ext e1
 refine c1 (limb_Join (s:=⟨some ⟨b,0,none⟩,2,2⟩) (k:=n) hR smp λu=>?_) λz w2 e2 hz=>?_
 ·match u with
  | 0=>exact hx
  | 1=>exact hy
  | u+2=>simp [sz,az]
 ·rw [show min ((n:Int)).toNat 16384=n by omega] at hz;refine hK z w2 (e1.trans e2) ?_;have e:vl (W64^n) [x,y]=x+W64^n*y:=by simp [vl]
  rw [←e];exact hz.less e1.size
section
variable {w:TW} {p:Option Addr} {dv rc c m d k e t:Nat} {now:Int} {tab:List Int}
theorem aa1(hE:Eg w p [dv,rc,c,m,d,k,e] t now tab){a b:Sl}(ha:Nt w a x)(hb:Nt w b y)(hx:sz x≤1073741824)(hy:sz y≤1073741824)(h0:0≤now)(h1:now≤1152921504606846976)(hK:∀s w',Xt1 t w w'→On w' w.w.heap.size s (x*y)→Eg w' p [dv,rc,c,m,d,k,e] t now tab→K s w'):
  nck p λa1=>ldc (.ptr) w a1 λ(v:Option Addr)=>nck v λa2=>ldc (.ptr) w a2 λ(v1:Option Addr)=>nck v1 λa3=>ldc (.ptr) w a3 λ(v2:Option Addr)=>cl Pg F.au [.pointer v2,a.v,b.v] w [.one .slice] K:=by
 refine hE.down λq0 E0=>?_
 refine vp E0 ha hb hx hy h0 h1 λs w1 x1 g1 g2=>hK s w1 x1 g1 (hE.re x1 g2)
end
def yB(K:Nat)(p:Option Addr)(bs:List Nat)(t:Nat)(tab:List Int):Prop:=∀{w:TW} {now:Int} {a b:Sl} {x y n:Nat},Eg w p bs t now tab→Nt w a x→Nt w b y→x<y*W64^n→n≤16384→sz y≤65536→0≤now→now+(n:Nat)≤1152921504606846976→n<K→
 Ct Pg F.eT [.pointer p,a.v,b.v,.int .i64 n] w (λk=>k=t) [.one .slice,.one .slice] λ(q r:Sl) w'=>On w' w.w.heap.size q (x/y)∧On w' w.w.heap.size r (x%y)∧Eg w' p bs t now tab
theorem uR(h:x<y*W64^n):sz x≤sz y+n:=by
 refine cQ (Nat.lt_of_lt_of_le h ?_);rw [Nat.pow_add];exact Nat.mul_le_mul_right _ (Nat.le_of_lt (gN y))
theorem wS{W b0 b1 low rest:Nat}(hb:b=b0+W*b1)(ha:a=low+W*rest)(hr:rest=q*b1+r):a+q*b0=q*b+(low+W*r):=by
 subst hb ha hr;grind
theorem yY{p:Nat}(h:a+p=q*b+r)(hp:p≤r)(hlt:r<p+b):a/b=q∧a%b=r-p:=by
 have h1:a=(r-p)+q*b:=om;have h2:r-p<b:=om;rw [h1,Nat.add_mul_div_right _ _ om,Nat.div_eq_of_lt h2,Nat.zero_add,Nat.add_mul_mod_self_right,Nat.mod_eq_of_lt h2];exact⟨rfl,rfl⟩
theorem ab7{p P:Nat}(h:a+p=q*b+r)(ha:a<b*P)(hq:q=P-1)(hP:0<P):r<p+b:=by
 obtain⟨k,rfl⟩:∃k,P=k+1:=⟨P-1,om⟩;rw [Nat.add_sub_cancel] at hq;subst hq;rw [Nat.mul_add,Nat.mul_one,Nat.mul_comm b] at ha;omega
set_option maxHeartbeats 400000 in
theorem ug{K:Nat}{p:Option Addr}{dv rc c m d k e t:Nat}{tab:List Int}(hI:yB K p [dv,rc,c,m,d,k,e] t tab){w:TW}{now:Int}{a b:Sl}{h:Nat}(hE:Eg w p [dv,rc,c,m,d,k,e] t now tab)(ha:Nt w a x)(hb:Nt w b y)(hxy:x<y*W64^h)(hh:h≤16384)(hy:sz y≤65536)(h0:0≤now)(h1:now+(h:Nat)≤1152921504606846976)(hK:h<K):
  Ct Pg F.dq [.pointer p,a.v,b.v,.int .i64 h] w (λk=>k=t) [.one .slice,.one .slice] λ(q r:Sl) w'=>On w' w.w.heap.size q (x/y)∧On w' w.w.heap.size r (x%y)∧Eg w' p [dv,rc,c,m,d,k,e] t now tab:=by
 refine Ct.dq ?_;unfold Sh.dq;have hE:=hE.here;have ha:=ha.here;have hb:=hb.here;have hx:=uR hxy;have hmin:min ((h:Int)).toNat 16384=h:=om;obtain⟨W,hW⟩:∃W,W64^h=W:=⟨_,rfl⟩;have hW0:0<W:=by rw [←hW];exact Nat.pow_pos dcd
 have hszW:sz W≤h+1:=by rw [←hW];exact cQ (Nat.pow_lt_pow_right dcd om)
 refine c2 (limb_Split hb om) ?_;rintro sb0 sb1 w1 e1 ⟨hb0,hb1,-⟩;refine c2 (limb_Split (ha.ext e1) om) ?_;rintro slow srest w2 e2 ⟨hlow,hrest,-⟩;rw [hmin,hW] at hb0 hb1 hlow hrest;rw [hW] at hxy;have hsr:sz (x/W)≤sz x:=iA;refine c2 (limb_Split hrest.nt om) ?_;rintro _ shigh w3 e3 ⟨-,hhigh,-⟩;rw [hmin,hW] at hhigh;obtain⟨b0,hb0e⟩:∃b0,y%W=b0:=⟨_,rfl⟩;obtain⟨b1,hb1e⟩:∃b1,y/W=b1:=⟨_,rfl⟩;obtain⟨lo,hloe⟩:∃lo,x%W=lo:=⟨_,rfl⟩;obtain⟨re,hree⟩:∃re,x/W=re:=⟨_,rfl⟩;have hys:y=b0+W*b1:=by rw [←hb0e,←hb1e];exact (Nat.mod_add_div _ _).symm
 have hxs:x=lo+W*re:=by rw [←hloe,←hree];exact (Nat.mod_add_div _ _).symm
 have llo:lo<W:=by rw [←hloe];exact Nat.mod_lt _ hW0
 have sb0':sz b0≤sz y:=by rw [←hb0e];exact ni
 have sb1':sz b1≤sz y:=by rw [←hb1e];exact iA
 have slo':sz lo≤sz x:=by rw [←hloe];exact ni
 rw [hb0e] at hb0;rw [hb1e] at hb1;rw [hloe] at hlow;rw [hree] at hrest hhigh hsr;have e23:=e2.trans e3;have e13:=e1.trans e23;have hb0:On w3 w.w.heap.size sb0 b0:=On.ext hb0 e23;have hb1:On w3 w.w.heap.size sb1 b1:=On.ext hb1 e23;have hlow:On w3 w.w.heap.size slow lo:=(On.ext hlow e3).less e1.size;have hrest:On w3 w.w.heap.size srest re:=(On.ext hrest e3).less e1.size;refine c1 (limb_Cmp hhigh.nt hb1.nt) ?_;rintro _ w4 e4 rfl;have e14:=e13.trans e4;have hE4:=hE.ext e14;have hb4:=hb.ext e14;have hb0:=On.ext hb0 e4;have hb1:=On.ext hb1 e4;have hlow:=On.ext hlow e4;have hrest:=On.ext hrest e4
 have y0:0<y:=by
  rcases Nat.eq_zero_or_pos y with h|h
  ·subst h;omega
  ·exact h
 refine j2 (λ(q r:Sl) w15=>∃Q R,On w15 w.w.heap.size q Q∧On w15 w.w.heap.size r R∧re=Q*b1+R∧lo+W*R<Q*b0+y∧sz Q≤131072∧sz R≤131072∧Xt1 t w.here w15∧Eg w15 p [dv,rc,c,m,d,k,e] t now tab∧Xt1 t w4 w15) ?_ ?_
 ·refine ac (λhc=>?_) (λhc=>?_)
  ·have hc:=ef.1 hc;have hre:re<b1*W64^h:=by rw [hW];exact (Nat.div_lt_iff_lt_mul hW0).1 hc
   refine t2 hE4.tz (hI hE4 hrest.nt hb1.nt hre hh om h0 h1 hK) ?_;rintro s6 s7 w5 x5 ⟨g1,g2,g3⟩;have hb10:0<b1:=Nat.lt_of_le_of_lt (Nat.zero_le _) hc;have hR:re%b1<b1:=Nat.mod_lt _ hb10;refine⟨re/b1,re%b1,g1.less e14.size,g2.less e14.size,by rw [Nat.mul_comm];exact (Nat.div_add_mod _ _).symm,?_,Nat.le_trans iA om,Nat.le_trans ni om,e14.any.trans x5,g3,x5⟩;have:=Nat.mul_le_mul_left W (show re%b1+1≤b1 from hR);rw [Nat.mul_add,Nat.mul_one] at this;generalize W*(re%b1)=z1 at*;generalize W*b1=z2 at*;generalize re/b1*b0=z3 at*;omega
  ·have hc:b1≤re/W:=Nat.not_lt.1 λh=>hc (ef.2 h)
   have hbre:b1*W≤re:=(Nat.le_div_iff_mul_le hW0).1 hc;refine c1 (limb_One (y:=1) dcd) λs8 w6 e6 ho=>?_
   have l0:sz 1≤1:=cQ dcd;refine qA (s:=Sl.nil) (n:=h) (Rd.nil _).nt ho.nt (by simp [vl,sz,az]) om hh λs9 w8 e8 hj=>?_
   rw [hW,show vl W64 []+W*1=W by simp [vl]] at hj;refine c1 (limb_One (y:=1) dcd) λs10 w9 e9 ho2=>?_
   refine c2 (limb_Sub ((On.ext hj e9).nt) ho2.nt om) ?_;rintro s11 _ w10 e10 ⟨-,hQ⟩;have e410:=((e6.trans e8).trans e9).trans e10;refine c1 (limb_Add (On.nt (On.ext hrest e410)) (On.nt (On.ext hb1 e410)) om om) λs12 w11 e11 ha2=>?_
   have e411:=e410.trans e11;have k1:=kI re b1;refine qA (s:=Sl.nil) (n:=h) (Rd.nil _).nt (On.nt (On.ext hb1 e411)) (by simp [vl,sz,az]) om hh λs13 w13 e13' hj2=>?_
   rw [hW,show vl W64 []+W*b1=W*b1 by simp [vl]] at hj2;refine c2 (limb_Sub (On.nt (On.ext ha2 e13')) hj2.nt om) ?_;rintro s14 _ w14 e14' ⟨-,hR⟩;have e414:=(e411.trans e13').trans e14';have z4:w.w.heap.size≤w4.w.heap.size:=e14.size
   have hdec:re=(W-1)*b1+(re+b1-W*b1):=by
    rw [Nat.sub_mul,Nat.one_mul];rw [Nat.mul_comm] at hbre;have:b1≤W*b1:=Nat.le_mul_of_pos_left _ hW0;omega
   refine⟨W-1,re+b1-W*b1,(On.ext hQ ((e11.trans e13').trans e14')).less ?_,hR.less ?_,hdec,?_,Nat.le_trans lE om,Nat.le_trans lE om,(e14.trans e414).any,hE4.ext e414,e414.any⟩
   ·exact Nat.le_trans z4 ((e6.trans e8).trans e9).size
   ·exact Nat.le_trans z4 (e411.trans e13').size
   ·exact ab7 (wS hys hxs hdec) hxy rfl hW0
 rintro q0 r0 w15 ⟨Q,R,hQ,hR,hdec,hend,hsQ,hsR,x15,hE15,x415⟩;have hT4:=hE4.tz;have hlow:=hlow.extT hT4 x415;have hb0:=hb0.extT hT4 x415;have hb15:=hb4.extT hT4 x415;refine qA (n:=h) hlow.nt hR.nt om om hh λs15 w17 e17 hr0=>?_
 rw [hW] at hr0;have hE17:=hE15.ext e17;have hQ17:On w17 w.w.heap.size q0 Q:=On.ext hQ e17;have hb17:=hb15.ext e17;have hr0:On w17 w.w.heap.size s15 (lo+W*R):=hr0.less x15.size;have k1:=dt Q b0;refine aa1 hE17 hQ17.nt (On.nt (On.ext hb0 e17)) om om h0 om λs16 w18 x18 hP hE18=>?_
 have hT17:=hE17.tz;have hQ18:=hQ17.extT hT17 x18;have hr18:=hr0.extT hT17 x18;have hb18:=hb17.extT hT17 x18;have x118:=(x15.trans e17.any).trans x18;have hrel:=wS hys hxs hdec;obtain⟨P,hPe⟩:∃P,Q*b0=P:=⟨_,rfl⟩;rw [hPe] at hP hrel hend k1;have k2:=kI P y;refine j2 (λ(q r:Sl) w24=>∃Q R,On w24 w.w.heap.size q Q∧On w24 w.w.heap.size r R∧x+P=Q*y+R∧R<P+y∧P≤R∧Ext aa w18 w24) ?_ ?_
 ·refine lp2 (λM (q r:Sl) w19=>∃Q R,M=P-R∧On w19 w.w.heap.size q Q∧On w19 w.w.heap.size r R∧x+P=Q*y+R∧R<P+y∧sz Q≤131072∧Ext aa w18 w19) (P-(lo+W*R)) ⟨Q,lo+W*R,rfl,hQ18,hr18,hrel,hend,hsQ,Ext.refl _ _⟩ ?_;rintro M q r w19 ⟨Q,R,rfl,hq,hr,hrel,hend,hsQ,e19⟩;have k3:sz R≤sz (P+y):=aq (Nat.le_of_lt hend);refine c1 (limb_Cmp hr.nt (On.nt (On.ext hP e19))) ?_;rintro _ w20 e20 rfl;have e1820:=e19.trans e20;refine ac (λhc=>?_) (λhc=>?_)
  ·have hc:=ef.1 hc;refine c1 (limb_One (y:=1) dcd) λs17 w21 e21 ho=>?_
   refine c2 (limb_Sub (On.nt (On.ext hq (e20.trans e21))) ho.nt om) ?_;rintro s18 _ w22 e22 ⟨-,hq'⟩;have e1822:=(e1820.trans e21).trans e22;refine c1 (limb_Add (On.nt (On.ext hr ((e20.trans e21).trans e22))) (hb18.ext e1822) om om) λs19 w23 e23' hr'=>?_
   have z18:w.w.heap.size≤w18.w.heap.size:=x118.size
   have hQ1:1≤Q:=by
    rcases Nat.eq_zero_or_pos Q with h|h
    ·subst h;omega
    ·exact h
   have hstep:x+P=(Q-1)*y+(R+y):=by
    obtain⟨z,rfl⟩:∃z,Q=z+1:=⟨Q-1,om⟩;rw [Nat.add_sub_cancel];rw [Nat.add_mul,Nat.one_mul] at hrel;omega
   refine⟨P-(R+y),om,Q-1,R+y,rfl,(On.ext hq' e23').less ?_,hr'.less ?_,hstep,om,Nat.le_trans lE hsQ,e1822.trans e23'⟩
   ·exact Nat.le_trans z18 (e1820.trans e21).size
   ·exact Nat.le_trans z18 e1822.size
  ·exact⟨Q,R,On.ext hq e20,On.ext hr e20,hrel,hend,Nat.not_lt.1 λh=>hc (ef.2 h),e1820⟩
 rintro q r w24 ⟨Q,R,hq,hr,hrel,hend,hle,e24⟩;have k3:sz R≤sz (P+y):=aq (Nat.le_of_lt hend);refine c2 (limb_Sub hr.nt (On.nt (On.ext hP e24)) om) ?_;rintro s20 _ w25 e25 ⟨-,hfin⟩;obtain⟨f1,f2⟩:=yY hrel hle hend;have ee:=e24.trans e25;refine rt2 (c:=.slice) (d:=.slice) _ _ (x118.trans ee.any) ⟨?_,?_,(hE18.ext ee).at⟩
 ·rw [f1];exact On.at (On.ext hq e25)
 ·rw [f2];exact (hfin.less (Nat.le_trans x118.size e24.size)).at
end
theorem aaA{x y W q1 r q0 r' lo re:Nat}(hx:x=lo+W*re)(h1:re/y=q1)(h2:re%y=r)(h3:(lo+W*r)/y=q0)(h4:(lo+W*r)%y=r')(hy:0<y):x/y=q0+W*q1∧x%y=r':=by
 have e1:=Nat.div_add_mod re y;have e2:=Nat.div_add_mod (lo+W*r) y;rw [h1,h2] at e1;rw [h3,h4] at e2;have hr':r'<y:=by rw [←h4];exact Nat.mod_lt _ hy
 have:x=r'+(q0+W*q1)*y:=by
  rw [hx,←e1];have:lo+W*(y*q1+r)=lo+W*r+W*(y*q1):=by grind
  rw [this,←e2];grind
 rw [this,Nat.add_mul_div_right _ _ hy,Nat.div_eq_of_lt hr',Nat.zero_add,Nat.add_mul_mod_self_right,Nat.mod_eq_of_lt hr'];exact⟨rfl,rfl⟩
theorem xy{p:Option Addr}{dv rc c m d k e t:Nat}{tab:List Int}:∀K,yB K p [dv,rc,c,m,d,k,e] t tab
 | 0=>λ_ _ _ _ _ _ _ _ h=>by omega
 | K+1=>by
  have hI:yB K p [dv,rc,c,m,d,k,e] t tab:=@xy p dv rc c m d k e t tab K;rename_i w now a b x y n;intro hE ha hb hxy hn hy h0 h1 hK;refine Ct.eT ?_;unfold Sh.eT;have hE:=hE.here;have ha:=ha.here;have hb:=hb.here;have hx:=uR hxy
  have y0:0<y:=by
   rcases Nat.eq_zero_or_pos y with h|h
   ·subst h;omega
   ·exact h
  refine j1 (λ(z:Bool) w2=>w2=w.here∧(z=false→n%2=0∧4≤n)) ?_ ?_
  ·refine eP (x:=n) (y:=2) rfl rfl dcd ?_;refine aG (λh=>⟨rfl,λh=>(by cases h)⟩) (λh=>?_);have hev:n%2=0:=by simp only [beq_eq_false_iff_ne,ne_eq] at h;omega
   refine hE.down λq1 E1=>E1.down λq2 E2=>E2.down λq3 E3=>E3.down λq4 E4=>E4.down λq5 E5=>E5.down λq6 E6=>E6.down λq7 E7=>?_
   have hq:q7=some ⟨t,0,none⟩:=E7.1;subst hq;obtain⟨_,_,hTab,_,m6,d6,hT⟩:=E7;obtain⟨r0,r1,r2,r3,r4,r5,r6,r7,r8,r9,r10,rfl,g0,g1,g2,g3,-⟩:=hTab;refine ah (hT.tabAt (i:=3) rfl ⟨rfl,λh=>⟨hev,?_⟩⟩);rw [decide_eq_false_iff_not] at h;omega
  rintro z _ ⟨rfl,hz⟩;cases z with
  | true=>
   refine aQ rfl ?_;refine hE.down λq1 E1=>E1.down λq2 E2=>?_
   refine t3 E2.tz (mH E2 ha hb om) ?_;rintro s s1 _ w2 x2 ⟨g1,g2,-,g4⟩;rw [if_neg om] at g2;exact rt2 (c:=.slice) (d:=.slice) _ _ x2 ⟨g1.at,g2.at,(hE.re x2 g4).at⟩
  | false=>
   obtain⟨hev,h4⟩:=hz rfl;refine ap rfl ?_;refine hE.down λq1 E1=>E1.down λq2 E2=>E2.down λq3 E3=>E3.down λq4 E4=>E4.down λq5 E5=>E5.down λq6 E6=>E6.down λq7 E7=>?_
   have hq:q7=some ⟨t,0,none⟩:=E7.1;subst hq;obtain⟨_,_,_,_,m6,d6,hT⟩:=E7;clear E1 E2 E3 E4 E5 E6;refine ah (t1 hT.tz (kK hT h0 om) λ_ w3 x3 hT3=>?_);have hE3:Eg w3 p [dv,rc,c,m,d,k,e] t (now+1) tab:=hE.set x3 hT3;have ha3:=ha.extT hT.tz x3;have hb3:=hb.extT hT.tz x3;clear hT3 hT;refine jb (x:=n) (y:=2) rfl rfl om dcd ?_;obtain⟨H,hH⟩:∃H,n/2=H:=⟨_,rfl⟩;rw [hH];have hn2:n=H+H:=om;obtain⟨W,hW⟩:∃W,W64^H=W:=⟨_,rfl⟩;have hW0:0<W:=by rw [←hW];exact Nat.pow_pos dcd
   rw [hn2,Nat.pow_add,hW] at hxy;refine c2 (limb_Split ha3 om) ?_;rintro slo sre w4 e4 ⟨hlo,hre,-⟩;rw [show min ((H:Int)).toNat 16384=H by omega,hW] at hlo hre;have hxs:x=x%W+W*(x/W):=(Nat.mod_add_div _ _).symm;obtain⟨lo,hloe⟩:∃lo,x%W=lo:=⟨_,rfl⟩;obtain⟨re,hree⟩:∃re,x/W=re:=⟨_,rfl⟩;have slo':sz lo≤sz x:=by rw [←hloe];exact ni
   have llo:lo<W:=by rw [←hloe];exact Nat.mod_lt _ hW0
   have lre:re<y*W:=by
    rw [←hree];exact (Nat.div_lt_iff_lt_mul hW0).2 (by rw [Nat.mul_assoc];exact hxy)
   rw [hloe] at hlo hxs;rw [hree] at hre hxs;have hE4:=hE3.ext e4;have hb4:=hb3.ext e4;refine t2 hE4.tz (ug hI hE4 hre.nt hb4 (by rw [hW];exact lre) om hy om om om) ?_;rintro sq1 sr w5 x5 ⟨hq1,hr,hE5⟩;have hlo5:=hlo.extT hE4.tz x5;have hb5:=hb4.extT hE4.tz x5;have k1:sz (re%y)≤sz y:=aq (Nat.le_of_lt (Nat.mod_lt _ y0));refine qA (n:=H) hlo5.nt hr.nt om om om λsj w7 e7 hj=>?_
   rw [hW] at hj;have hE7:=hE5.ext e7
   have lj:lo+W*(re%y)<y*W:=by
    have:=Nat.mul_le_mul_left W (show re%y+1≤y from Nat.mod_lt _ y0);rw [Nat.mul_add,Nat.mul_one,Nat.mul_comm W y] at this;omega
   refine t2 hE7.tz (ug hI hE7 hj.nt (hb5.ext e7) (by rw [hW];exact lj) om hy om om om) ?_;rintro sq0 sr' w8 x8 ⟨hq0,hr',hE8⟩;have hq1:=(On.ext hq1 e7).extT hE7.tz x8;refine hE8.down λq1 E1=>E1.down λq2 E2=>E2.down λq3 E3=>E3.down λq4 E4=>E4.down λq5 E5=>E5.down λq6 E6=>E6.down λq7 E7=>?_
   have hq:q7=some ⟨t,0,none⟩:=E7.1;subst hq;obtain⟨_,_,_,_,m6,d6,hT⟩:=E7;clear E1 E2 E3 E4 E5 E6;refine ah (t1 hT.tz (kJ hT h0 om) λ_ w9 x9 hT9=>?_);have hE9:Eg w9 p [dv,rc,c,m,d,k,e] t now tab:=hE8.set x9 hT9;have hq1:=hq1.extT hT.tz x9;have hq0:=hq0.extT hT.tz x9;have hr':=hr'.extT hT.tz x9;have k2:sz (re/y)≤sz re:=iA;have k3:sz re≤sz x:=by rw [←hree];exact iA
   have k4:sz ((lo+W*(re%y))/y)≤sz (y*W):=Nat.le_trans iA (aq (Nat.le_of_lt lj));have k5:=dt y W;have k6:sz W≤H+1:=by rw [←hW];exact cQ (Nat.pow_lt_pow_right dcd om)
   refine qA (n:=H) hq0.nt hq1.nt om om om λsz w11 e11 hz=>?_
   rw [hW] at hz;obtain⟨f1,f2⟩:=aaA hxs rfl rfl rfl rfl y0;have x17:Xt1 t w.here w7:=((x3.trans e4.any).trans x5).trans e7.any;have x19:=(x17.trans x8).trans x9;refine rt2 (c:=.slice) (d:=.slice) _ _ (x19.trans e11.any) ⟨?_,?_,(hE9.ext e11).at⟩
   ·rw [f1];exact (hz.less x19.size).at
   ·rw [f2];exact ((On.ext hr' e11).less x17.size).at
section
variable {w:TW} {s u:Sl} {B j z:Nat} {xs:List Nat} {i:Int}
def Osl(w:TW)(s u:Sl)(z:Nat):Prop:=Rd w u (dg W64 z)∧(dg W64 z≠[]→∀c,u.blk=some c→s.blk≠some c∧c<w.w.heap.size)
theorem Osl.ext{w':TW}(h:Osl w s u z)(x:Ext (λc=>s.blk=some c) w w'):Osl w' s u z:=
 ⟨h.1.extN x λhne c hc=>(h.2 hne c hc).1,λhne c hc=>⟨(h.2 hne c hc).1,Nat.lt_of_lt_of_le (h.2 hne c hc).2 x.size⟩⟩
theorem Os.idx(h:Os w B s xs)(hi:i=j)(hj:j<xs.length){K:Sl→Prop}(hK:∀u,Osl w s u (xs.getD j 0)→K u):ixa s i 1 λa=>ldc (.slice) w.drew a K:=by
 subst hi;obtain⟨ss,h1,h2,h3⟩:=h;have hl:=h1.rdv.1;simp only [List.length_map,Nat.mul_one] at hl;have h4:=h1.rdv.2.2.2;have hjs:j<ss.length:=om;obtain⟨b,o,hp,_,hc⟩:=h4 (λe=>by have:=congrArg List.length e;simp at this;subst this;simp at hjs);refine⟨⟨b,o,none⟩,hp,om,om,ss[j],?_,hK _ (h3 j _ (by simp [hjs]))⟩;rw [Int.toNat_natCast,Nat.mul_one,Addr.add_mk];exact hc j _ (by simp [hjs];rfl)
theorem Os.drew(h:Os w B s xs):Os w.drew B s xs:=by
 obtain⟨ss,h1,h2,h3⟩:=h;exact⟨ss,⟨h1.1,h1.2⟩,h2,λi t ht=>⟨(h3 i t ht).1.drew,(h3 i t ht).2⟩⟩
theorem Osl.drew(h:Osl w s u z):Osl w.drew s u z:=⟨h.1.drew,h.2⟩
theorem Os.set(h:Os w B s xs)(hi:i=j)(hj:j<xs.length)(hu:Osl w s u z){K:TW→Prop}(hK:∀w',Os w' B s (xs.set j z)→Ext (λc=>s.blk=some c) w w'→K w'):ixa s i 1 λa=>stc w a u.v K:=by
 subst hi;obtain⟨ss,h1,h2,h3⟩:=h;have hl:=h1.rdv.1;simp only [List.length_map,Nat.mul_one] at hl;rcases h1.form with ⟨rfl,hv⟩|⟨b,cur,hp,_⟩
 ·have:=congrArg List.length hv;simp at this;subst this;simp at h2;omega
 refine⟨⟨b,0,none⟩,hp,om,om,?_⟩;rw [Int.toNat_natCast,Nat.mul_one,Addr.add_mk,Nat.zero_add];refine h1.put hp (by simp;omega) _ λw' h' x'=>hK w' ⟨ss.set j u,by rwa [List.map_set],by simp [h2],λi v hv=>?_⟩ x'
 by_cases hij:j=i
 ·subst hij;rw [List.getElem?_set_self om] at hv;cases hv;rw [show (xs.set j z).getD j 0=z by simp [List.getD_eq_getElem?_getD,hj]];exact hu.ext x'
 ·rw [List.getElem?_set_ne hij] at hv;rw [show (xs.set j z).getD i 0=xs.getD i 0 by simp [List.getD_eq_getElem?_getD,List.getElem?_set_ne hij]];exact Osl.ext (h3 i v hv) x'
theorem Os.turn(h:Os w B s xs)(hn:xs.length≤1099511627776){J:TW→Prop}(hJ:∀w',Os w' B s xs.reverse→Ext (λc=>s.blk=some c) w w'→J w'):
  Lp [.int .i64,.int .i64] (λ(i1:Int)(j:Int) w17 C2=>
cond (decide ((i1:Int)<j)) (
ixa s j 1 λa10=>
ldc (.slice) w17.drew a10 λ(v9:Sl)=>
ixa s i1 1 λa11=>
ldc (.slice) w17.drew a11 λ(v10:Sl)=>
ixa s i1 1 λa12=>
stc w17.drew a12 v9.v λw18=>
ixa s j 1 λa13=>
stc w18 a13 v10.v λw19=>
bnd (wi (i1+1)) λn18=>
bnd (wi (j-1)) λn19=>
C2 n18 n19 w19) (
J w17)) 0 ((xs.length:Int)-1) w:=by
 refine lp2 (λM (i j:Int) w'=>∃(a:Nat) (ys:List Nat),i=a∧j=(xs.length:Int)-1-a∧M=xs.length-a∧a≤xs.length∧ys.length=xs.length∧Os w' B s ys∧(∀i,i<xs.length→ys.getD i 0=if i<a∨xs.length-1-a<i then xs.getD (xs.length-1-i) 0 else xs.getD i 0)∧Ext (λc=>s.blk=some c) w w') xs.length ⟨0,xs,rfl,om,rfl,om,rfl,h,λi hi=>by rw [if_neg om],Ext.refl _ _⟩ ?_;rintro M i j w' ⟨a,ys,rfl,rfl,rfl,ha,hl,hs,hy,x⟩;refine ac (λhc=>?_) (λhc=>?_)
 ·have hb:(xs.length:Int)-1-a=((xs.length-1-a:Nat):Int):=om;rw [hb];obtain⟨b,hbe⟩:∃b,xs.length-1-a=b:=⟨_,rfl⟩;rw [hbe] at hy ⊢;refine hs.idx rfl om λu hu=>hs.idx rfl om λv hv=>?_
  refine hs.drew.set rfl om hu.drew λw1 h1 x1=>?_
  refine h1.set rfl (by simp;omega) (hv.drew.ext x1) λw2 h2 x2=>?_
  refine ab om om (ab om om ⟨xs.length-(a+1),om,a+1,_,om,om,rfl,om,by simp [hl],h2,λi hi=>?_,(x.trans ((Ext.refl _ w').drew.trans x1)).trans x2⟩);have e1:=hy i hi;have ea:=hy a om;have eb:=hy b om;rw [if_neg om] at ea eb
  have g:∀(l:List Nat) (k:Nat) (z:Nat),k<l.length→∀i,(l.set k z).getD i 0=if i=k then z else l.getD i 0:=λl k z hk i=>by
   by_cases h:i=k
   ·subst h;simp [List.getD_eq_getElem?_getD,hk]
   ·rw [if_neg h];simp [List.getD_eq_getElem?_getD,List.getElem?_set_ne (Ne.symm h)]
  rw [g _ _ _ (by simp;omega),g _ _ _ om,ea,eb,e1];by_cases h1:i=b
  ·rw [if_pos h1,if_pos om,h1];congr 1;omega
  ·rw [if_neg h1];by_cases h2:i=a
   ·rw [if_pos h2,if_pos om,h2];congr 1;omega
   ·rw [if_neg h2];by_cases h3:i<a∨b<i
    ·rw [if_pos h3,if_pos om]
    ·rw [if_neg h3,if_neg om]
 ·refine hJ w' ?_ x
  have:ys=xs.reverse:=by
   refine List.ext_getElem (by simp [hl]) λi h1 h2=>?_
   have e:=hy i om;rw [List.getElem_reverse];have k1:ys.getD i 0=ys[i]:=by simp [h1]
   rw [k1] at e;rw [e];split
   ·simp [show xs.length-1-i<xs.length by omega]
   ·have:i=xs.length-1-i:=om;rw [show xs.getD i 0=xs[i]'(by omega) by simp [show i<xs.length by omega]];congr 1
  rwa [this] at hs
end
section
variable {w:TW} {x:Nat}
theorem div_piece{s:Sl}{l:List Nat}{f n:Nat}(h:Rd w s l)(hl:l.length≤1099511627776)(hf:f≤1099511627776)(hn:n≤1099511627776):Ct Pg F.jO [s.v,.int .i64 f,.int .i64 n] w aa [.one .slice] λ(r:Sl) w'=>On w' w.w.heap.size r (vl W64 l/W64^f%W64^n):=by
 refine Ct.jO ?_;unfold Sh.jO;have h:=h.here;have hs:=h.len;have hc:=h.cap;refine ac (λh1=>?_) (λh1=>?_)
 ·refine rt1 (c:=.slice) Sl.nil (Ext.refl _ _) ?_;have h2:vl W64 l<W64^f:=Nat.lt_of_lt_of_le (jQ h.sm) (Nat.pow_le_pow_right dcd om);rw [Nat.div_eq_of_lt h2,Nat.zero_mod];exact On.nil _ _
 refine ab om om (ag (y:=((min (f+n) l.length:Nat):Int)) (by split<;>omega) ?_);refine⟨om,om,om,?_⟩;rw [Int.toNat_natCast,Int.toNat_natCast];have h2:=h.cut (lo:=f) (hi:=min (f+n) l.length) om om
 have e:(l.take (min (f+n) l.length)).drop f=(l.drop f).take n:=by
  rw [List.drop_take];rcases Nat.le_total (f+n) l.length with h|h
  ·rw [show min (f+n) l.length-f=n by omega]
  ·rw [List.take_of_length_le (by simp;omega),List.take_of_length_le (by simp;omega)]
 rw [e] at h2;have hsm:Sm W64 (l.drop f):=λx hx=>h.sm x (List.mem_of_mem_drop hx)
 have hv:vl W64 ((l.drop f).take n)=vl W64 l/W64^f%W64^n:=by rw [(bQ hsm n).2,(bQ h.sm f).1]
 have h3:=h2.nt;rw [hv] at h3;refine c1 (limb_Norm h3 (Nat.le_trans ni (Nat.le_trans iA (Nat.le_trans (df h.sm) hl)))) λr w1 e1 hr=>?_
 exact rt1 (c:=.slice) _ e1 hr.at
theorem wE{U P D Q R z r W:Nat}(hW:0<W)(h:U/(P*W)=Q*D+R)(hz:U/P%W=z)(hx:(z+W*R)/D=x)(hr:(z+W*R)%D=r):U/P=(x+W*Q)*D+r:=by
 have h1:=Nat.mod_add_div (U/P) W;rw [Nat.div_div_eq_div_mul,h,hz] at h1;have h2:=Nat.div_add_mod (z+W*R) D;rw [hx,hr] at h2;rw [←h1];have:z+W*(Q*D+R)=(z+W*R)+W*Q*D:=by grind
 rw [this,←h2];grind
theorem yl{xs:List Nat}{B:Nat}(h:∀u,sz (xs.getD u 0)≤B)(u:Nat):sz (xs.reverse.getD u 0)≤B:=by
 by_cases hu:u<xs.length
 ·rw [List.getD_eq_getElem?_getD,List.getElem?_reverse hu,←List.getD_eq_getElem?_getD];exact h _
 ·rw [List.getD_eq_getElem?_getD,List.getElem?_eq_none (by simp;omega)];simp [sz,az]
set_option maxHeartbeats 400000 in
theorem yu{p:Option Addr}{dv rc c m d k e t:Nat}{now:Int}{tab:List Int}{a b:Sl}{y:Nat}(hE:Eg w p [dv,rc,c,m,d,k,e] t now tab)(ha:Nt w a x)(hb:Nt w b y)(hx:sz x≤524288)(hy:sz y≤8192)(h0:0≤now)(h1:now≤1000000000000000000):
  Ct Pg F.dR [.pointer p,a.v,b.v] w (λk=>k=t) [.one .slice,.one .slice,.one (.int .i64)] λ(q r:Sl)(err:Int) w'=>On w' w.w.heap.size q (x/y)∧On w' w.w.heap.size r (if y=0 then 0 else x%y)∧err=(if y=0 then 2 else 0:Nat)∧Eg w' p [dv,rc,c,m,d,k,e] t now tab:=by
 refine Ct.dR ?_;unfold Sh.dR;have hE:=hE.here;have ha:=ha.here;have hb:=hb.here;obtain⟨lb,hlb,rfl⟩:=hb;refine c1 (api_Nat_Len hlb) ?_;rintro _ w1 e1 rfl;obtain⟨y,hye⟩:∃y,vl W64 lb=y:=⟨_,rfl⟩;rw [hye] at hy ⊢;refine aG (λh=>?_) (λh=>?_)
 ·simp only [beq_iff_eq] at h
  have hy0:y=0:=by
   have:=gN y;rw [show sz y=0 by omega,Nat.pow_zero] at this;omega
  subst hy0;exact rt3 (c:=.slice) (d:=.slice) (e:=.int .i64) Sl.nil Sl.nil 2 e1.any ⟨by rw [Nat.div_zero];exact On.nil _ _,On.nil _ _,rfl,(hE.ext e1).at⟩
 have hy0:y≠0:=λh'=>by subst h';simp [sz,az] at h
 have y0:0<y:=Nat.pos_of_ne_zero hy0;obtain⟨M,hM⟩:∃M,sz y=M+1:=⟨sz y-1,by simp only [beq_eq_false_iff_ne,ne_eq] at h;omega⟩;rw [if_neg hy0,if_neg hy0];have hb1:=hlb.ext e1;have hnb:=hb1.nt;rw [hye] at hnb;have ha1:=ha.ext e1;refine c1 (limb_Cmp ha1 hnb) ?_;rintro _ w2 e2 rfl;have e12:=e1.trans e2;have ha2:=ha1.ext e2;have hE2:=hE.ext e12;refine ac (λhc=>?_) (λhc=>?_)
 ·have hlt:=ef.1 hc;refine c1 (limb_Norm ha2 om) λs w3 e3 h3=>?_
  exact rt3 (c:=.slice) (d:=.slice) (e:=.int .i64) Sl.nil _ 0 (e12.trans e3).any ⟨by rw [Nat.div_eq_of_lt hlt];exact On.nil _ _,by rw [Nat.mod_eq_of_lt hlt];exact (h3.less e12.size).at,rfl,(hE2.ext e3).at⟩
 rw [hM] at hy ⊢;refine j2 (λ(n i:Int) w4=>∃N h:Nat,n=N∧i=h∧N*2^h<M+1+2^h∧M+1≤N*2^h∧2^h≤M+1∧1≤N∧h≤8192∧w4=w2) ?_ ?_
 ·refine lp2 (λQ (n i:Int) w4=>∃N h:Nat,n=N∧i=h∧Q=N∧N*2^h<M+1+2^h∧M+1≤N*2^h∧2^h≤M+1∧1≤N∧N+h≤8192∧w4=w2) (M+1) ⟨M+1,0,rfl,rfl,rfl,om,om,om,om,om,rfl⟩ ?_;rintro Q n i _ ⟨N,h,rfl,rfl,rfl,g1,g2,g3,g4,g5,rfl⟩;refine hE2.down λq1 E1=>E1.down λq2 E2=>E2.down λq3 E3=>E3.down λq4 E4=>E4.down λq5 E5=>E5.down λq6 E6=>E6.down λq7 E7=>?_
  have hq:q7=some ⟨t,0,none⟩:=E7.1;subst hq;obtain⟨_,_,hTab,_,m6,d6,hT⟩:=E7;obtain⟨r0,r1,r2,r3,r4,r5,r6,r7,r8,r9,r10,rfl,k0,k1,k2,k3,-⟩:=hTab;refine ah (hT.tabAt (i:=3) rfl ?_);refine ac (λhc=>?_) (λhc=>?_)
  ·have hN4:4≤Q:=om;obtain⟨p2,hp2⟩:∃p2,2^h=p2:=⟨_,rfl⟩;refine ab om om (jb (x:=Q+1) (y:=2) om rfl om dcd (ab om om ?_));rw [hp2] at g1 g2 g3;have hk:∃z,(Q+1)/2=z∧2*z≤Q+1∧Q≤2*z:=⟨_,rfl,om,om⟩;obtain⟨z,hz,hz1,hz2⟩:=hk;rw [hz];have a1:=Nat.mul_le_mul_right p2 hz1;have a2:=Nat.mul_le_mul_right p2 hz2;have a3:=Nat.mul_le_mul_right p2 hN4;have a4:z*(p2*2)=2*z*p2:=by rw [←Nat.mul_assoc,Nat.mul_comm 2 z,Nat.mul_assoc,Nat.mul_comm p2,←Nat.mul_assoc]
   rw [Nat.add_mul,Nat.one_mul] at a1;refine⟨z,om,z,h+1,rfl,om,rfl,?_,?_,?_,om,om,rfl⟩
   ·rw [Nat.pow_succ,hp2,a4];omega
   ·rw [Nat.pow_succ,hp2,a4];omega
   ·rw [Nat.pow_succ,hp2];omega
  ·exact⟨Q,h,rfl,rfl,g1,g2,g3,g4,om,rfl⟩
 rintro n i w2 ⟨N,h,rfl,rfl,g1,g2,g3,g4,g5,rfl⟩;obtain⟨n,hn⟩:∃n,N*2^h=n:=⟨_,rfl⟩;rw [hn] at g1 g2
 have hh:h≤64:=by
  rcases Nat.lt_or_ge 64 h with h'|h'
  ·have:=Nat.pow_le_pow_right (n:=2) dcd (Nat.le_of_lt h');omega
  ·exact h'
 have hn1:n≤16384:=om;refine ai (y:=h) rfl (by have:=w64;omega) (adZ (x:=N) (n:=h) rfl rfl hh (by rw [hn];omega) ?_);rw [hn];have lb1:=df hb1.sm;rw [hye,hM] at lb1;have htop:=ry hb1.sm (m:=M) (by rw [hye];exact hM);rw [hye] at htop;have hbw:=hb1.ext e2;refine ab om om (ab om om (ag (y:=(M:Int)) (by rw [ar om om];omega) (hbw.ix (j:=M) rfl om ?_)));have htW:lb.getD M 0<W64:=hbw.lt M;refine c1 (bits_LeadingZeros64 htW) ?_;rintro _ w6 e6 rfl;obtain⟨S,hS⟩:∃S:Nat,64*(n-(M+1))+(64-bl (lb.getD M 0))=S:=⟨_,rfl⟩;refine ag (y:=(S:Int)) (by rw [ar om om];omega) ?_;have hmin:min ((S:Int)).toNat 1048576=S:=om;refine c1 (limb_Shl ((hnb.ext e2).ext e6) om) λs1 w7 e7 hD=>?_
 refine c1 (limb_Shl ((ha2.ext e6).ext e7) om) λs2 w8 e8 hU=>?_
 rw [hmin] at hD hU;have k1:=@rO y S;have k2:=@rO x S;have s0:0<2^S:=Nat.pow_pos dcd;obtain⟨D,hDe⟩:∃D,y*2^S=D:=⟨_,rfl⟩;obtain⟨U,hUe⟩:∃U,x*2^S=U:=⟨_,rfl⟩;rw [hDe] at hD k1;rw [hUe] at hU k2;have D0:0<D:=by rw [←hDe];exact Nat.mul_pos y0 s0
 have lU:=hU.rd.len;rw [aA] at lU;have hn0:0<n:=om;obtain⟨T,hTe⟩:∃T,(sz U+n-1)/n=T:=⟨_,rfl⟩
 have hT1:sz U≤n*T:=by
  rw [←hTe];have:=Nat.lt_mul_div_succ (sz U+n-1) hn0;rw [Nat.mul_add] at this;omega
 have hT2:T*n≤sz U+n-1:=by rw [←hTe];exact Nat.div_mul_le_self _ _
 have hT3:T≤600000:=by
  have:=Nat.mul_le_mul_left T (show 1≤n from hn0);omega
 have hUn:U<W64^(T*n):=Nat.lt_of_lt_of_le (gN U) (Nat.pow_le_pow_right dcd (by rw [Nat.mul_comm];exact hT1));refine ab om om (ab om om (jb (x:=sz U+n-1) (y:=n) om rfl om om ?_));rw [hTe];refine ab om om ?_;have e28:=(e6.trans e7).trans e8;have e8':=e12.trans e28;have hE8:=hE2.ext e28;have hD8:=On.ext hD e8;have hT8:=hE8.tz;have z8:w.w.heap.size≤w8.w.heap.size:=e8'.size;obtain⟨P,hP⟩:∃P,W64^n=P:=⟨_,rfl⟩;have P0:0<P:=by rw [←hP];exact Nat.pow_pos dcd
 refine j2 (λ(r3 parts:Sl) w9=>∃xs R,Os w9 w8.w.heap.size parts xs∧xs.length=T∧On w9 w.w.heap.size r3 R∧U=vl P xs.reverse*D+R∧R<D∧(∀u,sz (xs.getD u 0)≤131072)∧Xt1 t w8 w9∧Eg w9 p [dv,rc,c,m,d,k,e] t now tab) ?_ ?_
 ·refine lp3 (λK (r3 parts:Sl) (i:Int) w9=>∃xs R,i=(K:Int)-1∧K≤T∧Os w9 w8.w.heap.size parts xs∧xs.length=T-K∧On w9 w.w.heap.size r3 R∧U/W64^(K*n)=vl P xs.reverse*D+R∧R<D∧(∀u,sz (xs.getD u 0)≤131072)∧Xt1 t w8 w9∧Eg w9 p [dv,rc,c,m,d,k,e] t now tab) T ⟨[],0,rfl,Nat.le_refl _,Os.nil _ _,smp,On.nil _ _,by rw [Nat.div_eq_of_lt hUn];simp [vl],D0,by intro u;simp [sz,az],Ext.refl _ _,hE8⟩ ?_;rintro K r3 parts i w9 ⟨xs,R,rfl,hK,hs,hxl,hr,hv,hRD,hsz,x9,hE9⟩;refine ac (λhc=>?_) (λhc=>?_)
  ·obtain⟨J,rfl⟩:∃J,K=J+1:=⟨K-1,om⟩
   have hJn:J*n+n≤sz U+n-1:=by
    have:=Nat.mul_le_mul_right n hK;rw [Nat.add_mul,Nat.one_mul] at this;omega
   rw [show ((J+1:Nat):Int)-1=(J:Int) by omega];refine ag (y:=((J*n:Nat):Int)) (mD om) ?_;have hU9:=hU.rd.extT hT8 x9;have hD9:=hD8.extT hT8 x9;refine c1 (div_piece (f:=J*n) (n:=n) hU9 (by rw [aA];omega) om om) λs3 w10 e10 hz=>?_
   rw [aV W2,hP] at hz;obtain⟨z,hze⟩:∃z,U/W64^(J*n)%P=z:=⟨_,rfl⟩;rw [hze] at hz;have zP:z<P:=by rw [←hze];exact Nat.mod_lt _ P0
   have szz:sz z≤n:=by rw [←hP] at zP;exact cQ zP
   have szR:sz R≤sz D:=aq (Nat.le_of_lt hRD);have hr10:=On.ext hr e10;refine qA (n:=n) hz.nt hr10.nt om om hn1 λs4 w12 e12' hj=>?_
   rw [hP] at hj;have e912:=e10.trans e12';have hE12:=hE9.ext e912
   have hlt:z+P*R<D*W64^n:=by
    rw [hP];have:=Nat.mul_le_mul_left P (show R+1≤D from hRD);rw [Nat.mul_add,Nat.mul_one,Nat.mul_comm P D] at this;omega
   refine t2 hE12.tz (xy _ hE12 hj.nt (On.nt (On.ext hD9 e912)) hlt hn1 om h0 om (Nat.lt_succ_self _)) ?_;rintro s5 s6 w13 x13 ⟨hx5,hr6,hE13⟩;have x8_13:=(x9.trans e912.any).trans x13;have hs13:=(hs.ext e912).extT hE12.tz x13;refine Os.push hs13 hE13.tz x8_13 om hx5 λs7 w15 hs15 x15 y15=>?_
   have hE15:=hE13.young hE8 y15 hs13.from_;refine ab om om ⟨J,om,xs++[(z+P*R)/D],(z+P*R)%D,rfl,om,hs15,by simp [hxl];omega,?_,?_,Nat.mod_lt _ D0,?_,x15,hE15⟩
   ·have h6:=hr6.less (Nat.le_trans z8 (Nat.le_trans x9.size e912.size));refine Ow.extX h6 y15 λc hc h'=>?_
    obtain⟨ss,g1,-,-⟩:=hs13;exact Own.neTy g1 (Ow.ow h6) dcd h' hc
   ·rw [List.reverse_append,List.reverse_singleton,List.singleton_append,de];rw [Nat.add_mul J 1,Nat.one_mul,Nat.pow_add,hP] at hv;exact wE P0 hv hze rfl rfl
   ·intro u;rw [ud];split
    ·have l1:=uR (n:=n) hlt;exact Nat.le_trans iA om
    ·exact hsz u
  ·have:K=0:=om;subst this;rw [Nat.zero_mul,Nat.pow_zero,Nat.div_one] at hv;exact⟨xs,R,hs,om,hr,hv,hRD,hsz,x9,hE9⟩
 rintro r3 parts w9 ⟨xs,R,hs,hxl,hr,hv,hRD,hsz,x9,hE9⟩;have hpl:=hs.rs.len;rw [hpl];refine ab om om ?_;refine j0 (λw20=>Os w20 w8.w.heap.size parts xs.reverse∧Ext (λc=>parts.blk=some c) w9 w20) (hs.turn om λw20 h20 x20=>⟨h20,x20⟩) ?_;rintro w20 ⟨hs20,x20⟩
 have hfl:∀c,parts.blk=some c→w8.w.heap.size≤c:=λc hc=>by
  obtain⟨ss,g1,-,-⟩:=hs;exact (g1.from_ c hc).1
 have hrp:∀c,r3.blk=some c→¬parts.blk=some c:=λc hc h'=>by
  obtain⟨ss,g1,-,-⟩:=hs;exact Own.neTy g1 (Ow.ow hr) dcd h' hc
 have hr20:On w20 w.w.heap.size r3 R:=Ow.extX hr x20 hrp;have hE20:=hE9.young hE8 x20 hfl;have x820:Xt1 t w8 w20:=Ext.mineT x9 x20 λc hc=>.inr (hfl c hc)
 refine c1 (limb_Join (k:=n) hs20.rs (by simp;omega) λu=>Nat.le_trans (yl hsz u) om) λs8 w21 e21 hq=>?_
 rw [show min ((n:Int)).toNat 16384=n by omega,hP] at hq;have szR:sz R≤sz D:=aq (Nat.le_of_lt hRD);refine c1 (limb_Shr (On.nt (On.ext hr20 e21)) om) λs9 w22 e22 hrr=>?_
 rw [hmin] at hrr
 have f1:x/y=vl P xs.reverse:=by
  rw [←Nat.mul_div_mul_right x y s0,hUe,hDe,hv,Nat.add_comm,Nat.add_mul_div_right _ _ D0,Nat.div_eq_of_lt hRD,Nat.zero_add]
 have f2:x%y=R/2^S:=by
  have:x%y*2^S=R:=by
   rw [←Nat.mul_mod_mul_right,hUe,hDe,hv,Nat.add_comm,Nat.add_mul_mod_self_right,Nat.mod_eq_of_lt hRD]
  rw [←this,Nat.mul_div_cancel _ s0]
 have e2022:=e21.trans e22;have xx:Xt1 t w.here w22:=(e8'.any.trans x820).trans e2022.any;refine rt3 (c:=.slice) (d:=.slice) (e:=.int .i64) _ _ 0 xx ⟨?_,?_,rfl,(hE20.ext e2022).at⟩
 ·rw [f1];exact ((On.ext hq e22).less (Nat.le_trans z8 x820.size)).at
 ·rw [f2];exact (hrr.less (Nat.le_trans z8 (Nat.le_trans x820.size e21.size))).at
end
section
variable {a b:Sl} {x y:Nat}
section
variable {w:TW} {p:Option Addr} {dv rc c m d k e t:Nat} {now:Int} {tab:List Int}
theorem yr(hE:Eg w p [dv,rc,c,m,d,k,e] t now tab)(ha:Nt w a x)(hb:Nt w b y)(hx:sz x≤16384)(hy:sz y≤16384)(y0:0<y)(h0:0≤now)(h1:now≤1000000000000000000):
  Ct Pg F.dO [.pointer p,a.v,b.v] w (λk=>k=t) [.one .slice,.one .slice] λ(q r:Sl) w'=>On w' w.w.heap.size q (x/y)∧On w' w.w.heap.size r (x%y)∧Eg w' p [dv,rc,c,m,d,k,e] t now tab:=by
 refine Ct.dO ?_;unfold Sh.dO;have hE:=hE.here;have ha:=ha.here;have hb:=hb.here;obtain⟨la,hla,rfl⟩:=ha;refine c1 (api_Nat_Len hla) ?_;rintro _ w1 e1 rfl;have ha1:=(hla.ext e1).nt;obtain⟨x,hxe⟩:∃x,vl W64 la=x:=⟨_,rfl⟩;rw [hxe] at hx ha1 ⊢;obtain⟨n,hn⟩:∃n,64*sz x=n:=⟨_,rfl⟩;refine ag (y:=(n:Int)) (by rw [ar om om];omega) ?_;have hE1:=hE.ext e1;have hb1:=hb.ext e1;refine hE1.down λq1 E1=>?_
 refine t2 E1.tz (wt E1 hb1 om om h0 om) ?_;rintro s _ w2 x2 ⟨hv,E2⟩;have hE2:=hE1.re x2 E2;have ha2:=ha1.extT hE1.tz x2;have hb2:=hb1.extT hE1.tz x2;have k1:sz (2^n/y)≤n/64+2:=Nat.le_trans iA rP;refine aa1 hE2 ha2 hv.nt om om h0 om λs1 w3 x3 hm hE3=>?_
 have k2:=dt x (2^n/y);have ha3:=ha2.extT hE2.tz x3;have hb3:=hb2.extT hE2.tz x3;refine c1 (limb_Shr hm.nt om) λs2 w4 e4 hq=>?_
 rw [show min ((n:Int)).toNat 1048576=n by omega] at hq;have k3:sz (x*(2^n/y)/2^n)≤sz (x*(2^n/y)):=iA;obtain⟨Q,hQ⟩:∃Q,x*(2^n/y)/2^n=Q:=⟨_,rfl⟩;rw [hQ] at hq k3
 have hQle:Q*y≤x:=by
  rw [←hQ];have p0:0<2^n:=Nat.pow_pos dcd;have a1:x*(2^n/y)/2^n*2^n≤x*(2^n/y):=Nat.div_mul_le_self _ _;have a2:2^n/y*y≤2^n:=Nat.div_mul_le_self _ _;generalize x*(2^n/y)/2^n=u at*;generalize 2^n/y=v at*;generalize 2^n=P at*;have a3:u*P*y≤x*v*y:=Nat.mul_le_mul_right _ a1;have a4:x*(v*y)≤x*P:=Nat.mul_le_mul_left _ a2;refine Nat.le_of_mul_le_mul_right ?_ p0
  calc u*y*P=u*P*y:=by grind
   _≤x*v*y:=a3
   _=x*(v*y):=by grind
   _≤x*P:=a4
 have hE4:=hE3.ext e4;refine aa1 hE4 hq.nt (hb3.ext e4) om om h0 om λs3 w5 x5 hm5 hE5=>?_
 have ha5:=(ha3.ext e4).extT hE4.tz x5;have hb5:=(hb3.ext e4).extT hE4.tz x5;have hq5:=hq.extT hE4.tz x5;refine c2 (limb_Sub ha5 hm5.nt om) ?_;rintro s4 _ w6 e6 ⟨-,hr⟩;have x13:=e1.any.trans (x2.trans x3);have x15:Xt1 t w.here w5:=(x13.trans e4.any).trans x5;have hr0:On w6 w.w.heap.size s4 (x-Q*y):=hr.less x15.size;have hq6:On w6 w.w.heap.size s2 Q:=(On.ext hq5 e6).less x13.size;refine j2 (λ(q r:Sl) w12=>On w12 w.w.heap.size q (x/y)∧On w12 w.w.heap.size r (x%y)∧Ext aa w5 w12) ?_ ?_
 ·refine lp2 (λM (q r:Sl) w7=>∃Q R,M=R∧On w7 w.w.heap.size q Q∧On w7 w.w.heap.size r R∧x=Q*y+R∧sz Q≤65536+(x-R)∧sz Q≤131072∧Ext aa w5 w7) (x-Q*y) ⟨Q,x-Q*y,rfl,hq6,hr0,om,om,om,e6⟩ ?_;rintro M q r w7 ⟨Q,R,rfl,hq,hr,hrel,hs1,hs2,e7⟩;have k4:sz M≤sz x:=aq om;have hb7:=hb5.ext e7;refine c1 (limb_Cmp hr.nt hb7) ?_;rintro _ w8 e8 rfl;refine ac (λhc=>?_) (λhc=>?_)
  ·have hc:y≤M:=Nat.not_lt.1 λh=>by have:=ef.2 h;omega
   refine c2 (limb_Sub (On.nt (On.ext hr e8)) (hb7.ext e8) om) ?_;rintro s5 _ w9 e9 ⟨-,hr'⟩;refine c1 (limb_One (y:=1) dcd) λs6 w10 e10 ho=>?_
   have l0:sz 1≤1:=cQ dcd;have e810:=(e8.trans e9).trans e10;refine c1 (limb_Add (On.nt (On.ext hq e810)) ho.nt om om) λs7 w11 e11 hq'=>?_
   have z5:w.w.heap.size≤w5.w.heap.size:=x15.size;have hz:x=(Q+1)*y+(M-y):=by rw [Nat.add_mul,Nat.one_mul];omega
   have hQx:Q+1≤x:=by
    have:=Nat.mul_le_mul_left (Q+1) (show 1≤y from y0);omega
   have k5:sz (Q+1)≤sz x:=aq hQx;refine⟨M-y,om,Q+1,M-y,rfl,hq'.less ?_,(On.ext hr' (e10.trans e11)).less ?_,hz,om,om,(e7.trans e810).trans e11⟩
   ·exact Nat.le_trans z5 (e7.trans e810).size
   ·exact Nat.le_trans z5 (e7.trans e8).size
  ·have hlt:M<y:=ef.1 om;have f1:x/y=Q:=by rw [hrel,Nat.add_comm,Nat.add_mul_div_right _ _ y0,Nat.div_eq_of_lt hlt,Nat.zero_add]
   have f2:x%y=M:=by rw [hrel,Nat.add_comm,Nat.add_mul_mod_self_right,Nat.mod_eq_of_lt hlt]
   rw [f1,f2];exact⟨On.ext hq e8,On.ext hr e8,e7.trans e8⟩
 rintro q r w12 ⟨g1,g2,e12⟩;exact rt2 (c:=.slice) (d:=.slice) _ _ (x15.trans e12.any) ⟨g1.at,g2.at,(hE5.ext e12).at⟩
theorem sI(hE:Eg w p [dv,rc,c,m,d,k,e] t now tab)(ha:Nt w a x)(hb:Nt w b y)(hx:sz x≤524288)(hxy:sz x≤16384∨sz y≤8192)(h0:0≤now)(h1:now≤1000000000000000000):
  Ct Pg F.ay [.pointer p,a.v,b.v] w (λk=>k=t) [.one .slice,.one .slice,.one (.int .i64)] λ(q r:Sl)(err:Int) w'=>On w' w.w.heap.size q (x/y)∧On w' w.w.heap.size r (if y=0 then 0 else x%y)∧err=(if y=0 then 2 else 0:Nat)∧Eg w' p [dv,rc,c,m,d,k,e] t now tab:=by
 refine Ct.ay ?_;unfold Sh.ay;have hE:=hE.here;have ha:=ha.here;have hb:=hb.here;obtain⟨la,hla,rfl⟩:=ha;obtain⟨lb,hlb,rfl⟩:=hb;refine c1 (api_Nat_Len hla) ?_;rintro _ w1 e1 rfl;refine c1 (api_Nat_Len (hlb.ext e1)) ?_;rintro _ w2 e2 rfl;have e:=e1.trans e2;have ha:=(hla.ext e).nt;have hb:=(hlb.ext e).nt;have hE2:=hE.ext e;obtain⟨x,hxe⟩:∃x,vl W64 la=x:=⟨_,rfl⟩;obtain⟨y,hye⟩:∃y,vl W64 lb=y:=⟨_,rfl⟩;rw [hxe] at ha hx hxy ⊢;rw [hye] at hb hxy ⊢;refine aG (λh=>?_) (λh=>?_)
 ·simp only [beq_iff_eq] at h
  have hy:y=0:=by
   have:=gN y;rw [show sz y=0 by omega,Nat.pow_zero] at this;omega
  subst hy;exact rt3 (c:=.slice) (d:=.slice) (e:=.int .i64) Sl.nil Sl.nil 2 e.any ⟨by rw [Nat.div_zero];exact On.nil _ _,On.nil _ _,rfl,hE2.at⟩
 have hy0:y≠0:=λh'=>by subst h';simp [sz,az] at h
 have hsy:1≤sz y:=by simp only [beq_eq_false_iff_ne,ne_eq] at h;omega
 rw [if_neg hy0,if_neg hy0]
 have tab7:∀{K:Int→Prop} {i:Nat},(∀v,(i=3→4≤v∧v≤1024)→(i=4→4≤v∧v≤4096)→K v)→(i=3∨i=4)→nck p λa1=>
   ldc (.ptr) w2 a1 λ(v:Option Addr)=>
   nck v λa2=>
   ldc (.ptr) w2 a2 λ(v1:Option Addr)=>
   nck v1 λa3=>
   ldc (.ptr) w2 a3 λ(v2:Option Addr)=>
   nck v2 λa4=>
   ldc (.ptr) w2 a4 λ(v3:Option Addr)=>
   nck v3 λa5=>
   ldc (.ptr) w2 a5 λ(v4:Option Addr)=>
   nck v4 λa6=>
   ldc (.ptr) w2 a6 λ(v5:Option Addr)=>
   nck v5 λa7=>
   ldc (.ptr) w2 a7 λ(v6:Option Addr)=>
   nck v6 λa8=>
   ldc (.int .i64) w2 ((a8.add 3).add i) K:=by
  intro K i hK hi;refine hE2.down λq1 E1=>E1.down λq2 E2=>E2.down λq3 E3=>E3.down λq4 E4=>E4.down λq5 E5=>E5.down λq6 E6=>E6.down λq7 E7=>?_
  have hq:q7=some ⟨t,0,none⟩:=E7.1;subst hq;obtain⟨_,_,hTab,_,m6,d6,hT⟩:=E7;obtain⟨r0,r1,r2,r3,r4,r5,r6,r7,r8,r9,r10,rfl,k0,k1,k2,k3,k4,-⟩:=hTab;rcases hi with rfl|rfl
  ·exact ah (hT.tabAt (i:=3) rfl (hK _ (λ_=>k3) λh=>om))
  ·exact ah (hT.tabAt (i:=4) rfl (hK _ (λh=>om) λ_=>k4))
 refine j1 (λ(z:Bool) w3=>w3=w2∧(z=false→sz y≤sz x)) ?_ ?_
 ·refine ac (λh=>⟨rfl,λh=>(by cases h)⟩) (λh=>?_);refine tab7 (i:=3) (λv hv _=>?_) (.inl rfl);refine ac (λh=>⟨rfl,λh=>(by cases h)⟩) (λh2=>?_);refine fV (fV ?_);exact tab7 (i:=3) (λv hv _=>⟨rfl,λ_=>by omega⟩) (.inl rfl)
 rintro z w2' ⟨rfl,hz⟩;cases z with
 | true=>
  refine aQ rfl ?_;refine hE2.down λq1 E1=>E1.down λq2 E2=>?_
  refine t3 E2.tz (mH E2 ha hb om) ?_;rintro s s1 _ w3 x3 ⟨g1,g2,g3,g4⟩;rw [if_neg hy0] at g2 g3;exact rt3 (c:=.slice) (d:=.slice) (e:=.int .i64) _ _ _ (e.any.trans x3) ⟨(g1.less e.size).at,(g2.less e.size).at,g3,(hE2.re x3 g4).at⟩
 | false=>
  have hyx:=hz rfl;refine ap rfl ?_;refine j1 (λ(z:Bool) w3=>w3=w2'∧(z=true→sz x≤16384)∧(z=false→sz y≤8192)) ?_ ?_
  ·refine tab7 (i:=4) (λv _ hv=>?_) (.inr rfl);have:=hv rfl;refine ac (λh=>⟨rfl,λh=>?_,λh=>?_⟩) (λh=>⟨rfl,λh=>(by cases h),λ_=>by omega⟩)
   ·rw [decide_eq_true_iff] at h;omega
   ·rw [decide_eq_false_iff_not] at h;omega
  rintro z w2 ⟨rfl,hz1,hz2⟩;cases z with
  | true=>
   refine aQ rfl ?_;refine t2 hE2.tz (yr hE2 ha hb (hz1 rfl) (by have:=hz1 rfl;omega) (Nat.pos_of_ne_zero hy0) h0 h1) ?_;rintro s s1 w3 x3 ⟨g1,g2,g4⟩;exact rt3 (c:=.slice) (d:=.slice) (e:=.int .i64) _ _ 0 (e.any.trans x3) ⟨(g1.less e.size).at,(g2.less e.size).at,rfl,g4.at⟩
  | false=>
   refine ap rfl ?_;refine t3 hE2.tz (yu hE2 ha hb hx (hz2 rfl) h0 h1) ?_;rintro s s1 er w3 x3 ⟨g1,g2,g3,g4⟩;rw [if_neg hy0] at g2 g3;exact rt3 (c:=.slice) (d:=.slice) (e:=.int .i64) _ _ er (e.any.trans x3) ⟨(g1.less e.size).at,(g2.less e.size).at,g3,g4.at⟩
end
abbrev aeG(x y:Nat):Prop:=sz x≤524288∧(sz x≤16384∨sz y≤8192)
theorem aam:mB aeG:=λhE ha hb hs h0 h1=>sI hE ha hb hs.1 hs.2 h0 h1
end
end Go.Proofs.YtpbimnlggalnfaaGreatDoor.Zg
