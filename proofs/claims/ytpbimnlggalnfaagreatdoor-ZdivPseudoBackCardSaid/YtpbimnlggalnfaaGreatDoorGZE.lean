/- A part of the proofs of this seat's laws. -/
import Derived.Test.YtpbimnlggalnfaaGreatDoorGZD
import Derived.Test.YtpbimnlggalnfaaGreatDoorGP5
import Derived.Test.YtpbimnlggalnfaaGreatDoorGA
import Derived.Test.YtpbimnlggalnfaaGreatDoorGMA
import Derived.Test.YtpbimnlggalnfaaGreatDoorGMB
import Derived.Test.YtpbimnlggalnfaaGreatDoorGMD
import Derived.Test.YtpbimnlggalnfaaGreatDoorGME
import Derived.Test.YtpbimnlggalnfaaGreatDoorGKA
import Derived.Test.YtpbimnlggalnfaaGreatDoorGKE
import Derived.Test.YtpbimnlggalnfaaGreatDoorGIA
import Derived.Test.YtpbimnlggalnfaaGreatDoorGKC
import Derived.Test.YtpbimnlggalnfaaGreatDoorGHA
import Derived.Test.YtpbimnlggalnfaaGreatDoorGB
import Derived.Test.YtpbimnlggalnfaaGreatDoorGIB
import Derived.Test.YtpbimnlggalnfaaGreatDoorGJA
import Derived.Test.YtpbimnlggalnfaaGreatDoorGJB
import Derived.Test.YtpbimnlggalnfaaGreatDoorGHD
import Derived.Test.YtpbimnlggalnfaaGreatDoorGK
import Derived.Test.YtpbimnlggalnfaaGreatDoorGQ
import Derived.Test.YtpbimnlggalnfaaGreatDoorGMC
import Derived.Test.YtpbimnlggalnfaaGreatDoorGNA
import Derived.Test.YtpbimnlggalnfaaGreatDoorGNB
import Derived.Test.YtpbimnlggalnfaaGreatDoorGNC
import Derived.Test.YtpbimnlggalnfaaGreatDoorGND
import Derived.Test.YtpbimnlggalnfaaGreatDoorGZC
import Derived.Test.YtpbimnlggalnfaaGreatDoorGP
import Derived.Test.YtpbimnlggalnfaaGreatDoorGP1
import Derived.Test.YtpbimnlggalnfaaGreatDoorGP2
import Derived.Test.YtpbimnlggalnfaaGreatDoorGP3
import Derived.Test.YtpbimnlggalnfaaGreatDoorGP4
import Derived.Test.YtpbimnlggalnfaaGreatDoorGP6
import Derived.Test.YtpbimnlggalnfaaGreatDoorGS
import Derived.Test.YtpbimnlggalnfaaGreatDoorGC
import Derived.Test.YtpbimnlggalnfaaGreatDoorGZA
import Derived.Test.YtpbimnlggalnfaaGreatDoorGZB
set_option linter.unusedVariables false
set_option linter.unusedSimpArgs false
set_option linter.unnecessarySimpa false
namespace Go.Proofs.YtpbimnlggalnfaaGreatDoor.Zg
open Go.RowKit
section
variable {w:TW} {a b:Sl} {xs ys zs:List Int}
theorem mZ{l:List Int}{n:Nat}(h:hgt l≤n)(i:Nat):dz (l.getD i 0).natAbs≤2*(n/64+1):=ke (mX h i)
theorem l5{i:Nat}(ha:Rq (dg B32) w a zs)(hi:i≤1048576):Ct Pg F.bn [a.v,.int .i64 i] w aa [.agg [.slice,.bool]] λ(s:Sl)(n:Bool) w'=>Zr w' s n (zs.getD i 0):=by
 refine Ct.bn ?_;unfold Sh.bn;have na:=ha.len;intro w1 e1;refine j3 (λ(x:Bool)(_:Sl)(_:Bool) w2=>x=decide (zs.length≤i)∧w2=w1) ?_ ?_
 ·refine ac (λh=>absurd h om) (λ_=>⟨?_,rfl⟩);rw [decide_eq_decide];omega
 rintro x _ _ w2 ⟨rfl,rfl⟩;refine ac (λh=>?_) (λh=>?_)
 ·intro w3 e3;refine⟨(Sl.nil,false,()),rfl,e1.trans e3,?_⟩;rw [fu h];exact⟨Dr.nil _,rfl⟩
 ·refine (ha.here.ext e1).ix (j:=i) rfl om λa1 tt hel _ q0 q1=>ldp q0 q1 ?_
  intro w4 e4;exact⟨(_,_,()),rfl,e1.trans e4,((hel.ext e4).zr).at⟩
theorem jV{cs:Sl}{cn:Bool}{z:Int}(ha:Rq (dg B32) w a zs)(hc:Zr w cs cn z)(hl:zs.length≤65536)(hz:hgt zs≤200000)(hcz:bl z.natAbs≤200000):Ct Pg F.aK [a.v,.agg #[cs.v,.bool cn]] w aa [.one .slice] λ(s:Sl) w'=>Rq (dg B32) w' s (Sc z zs):=by
 refine Ct.aK ?_;unfold Sh.aK;have na:=ha.len;have dcz:dz z.natAbs≤6252:=Nat.le_trans (ke (dY hcz)) dcd;intro w1 e1;have ha1:=ha.here.ext e1;have hc1:=hc.here.ext e1;have hm:∀j,(zs.map (·*z)).getD j 0=zs.getD j 0*z:=i5 smp zs;refine j1 (λ(out:Sl) w6=>Oq (dg B32) w6 w1.w.heap.size T.am out (zs.map (·*z))∧Ext aa w1 w6) ?_ ?_
 ·refine lp4 (λM (out:Sl) (i:Int) (c2:Sl) (c3:Bool) w2=>c2=cs∧c3=cn∧∃j:Nat,i=j∧M=zs.length-j∧j≤zs.length∧Oq (dg B32) w2 w1.w.heap.size T.am out ((zs.map (·*z)).take j)∧Ext aa w1 w2) zs.length ⟨rfl,rfl,0,rfl,om,om,Oq.nil _ _ _ _,Ext.refl _ _⟩ ?_;rintro M out i c2 c3 w2 ⟨rfl,rfl,j,rfl,rfl,hj,ho,e2⟩;refine ac (λh=>?_) (λh=>?_)
  ·have ed:Ext aa w2 w2.drew:=(Ext.refl _ _).drew;refine (ha1.ext (e2.trans ed)).ix (j:=j) rfl om λa1 tt hel _ q0 q1=>ldp q0 q1 ?_
   refine cl0 (oH hel.zr (hc1.ext (e2.trans ed)) (Nat.le_trans (mZ hz j) dcd) om) ?_;intro r r1 w3 e3 hr;obtain⟨hr,hrf⟩:=hr;have hr:Zr w3 r r1 (zs.getD j 0*z):=hr;have e23:=ed.trans e3;refine (ho.ext e23).push (e2.trans e23) (by simp;omega) hr.el (λhne c hc=>⟨λhs=>?_,hr.1.lt_blk hne c hc⟩) λs' w5 h5 e5 _=>ab om om ⟨zs.length-(j+1),om,rfl,rfl,j+1,om,rfl,om,by rw [bV _ (by simpa using (show j<zs.length by omega)),hm];exact h5,e5⟩
   have h1:=hrf c hc;have h2:=(ho.lt_blk c hs).2;have h1:w2.w.heap.size≤c:=h1;omega
  ·have:j=zs.length:=om;subst this;exact⟨by rwa [List.take_of_length_le smp] at ho,e2⟩
 rintro out w6 ⟨ho,e6⟩;refine c1 (jo ho.rq (by simp;omega)) ?_;rintro s1 w7 e7 rfl;have hc:=(ho.cut (ak _)).ext e7;rw [eK] at hc;exact rt1 (c:=.slice) _ ((e1.trans e6).trans e7) hc.rq.at
theorem vi(xs:List Int):(ngz xs).length=xs.length:=by simp [ngz]
theorem rI(ha:Rq (dg B32) w a xs)(hb:Rq (dg B32) w b ys)(hl:xs.length≤65536)(hl2:ys.length≤65536)(hx:hgt xs≤400000)(hy:hgt ys≤400000):Ct Pg F.bq [a.v,b.v] w aa [.one .slice] λ(s:Sl) w'=>Rq (dg B32) w' s (Ad xs ys):=by
 refine Ct.bq ?_;unfold Sh.bq;have na:=ha.len;have nb:=hb.len;obtain⟨N,hN⟩:∃N,N=max xs.length ys.length:=⟨_,rfl⟩;have hlen:=kj xs ys;refine j1 (λ(out:Sl) w7=>Oq (dg B32) w7 w.here.w.heap.size T.am out (et xs ys)∧Ext aa w.here w7) ?_ ?_
 ·refine lp2 (λM (out:Sl) (i:Int) w1=>∃j:Nat,i=j∧M=N-j∧j≤N∧Oq (dg B32) w1 w.here.w.heap.size T.am out ((et xs ys).take j)∧Ext aa w.here w1) N ⟨0,rfl,om,om,Oq.nil _ _ _ _,Ext.refl _ _⟩ ?_;rintro M out i w1 ⟨j,rfl,rfl,hj,ho,e1⟩;refine ag (y:=(N:Int)) (by split<;>omega) ?_;refine ac (λh=>?_) (λh=>?_)
  ·refine cl0 (l5 (i:=j) (ha.here.ext e1) om) ?_;intro r r1 w2 e2 hr;have hr:Zr w2 r r1 (xs.getD j 0):=hr;refine cl0 (l5 (i:=j) (hb.here.ext (e1.trans e2)) om) ?_;intro r2 r3 w3 e3 hr2;have hr2:Zr w3 r2 r3 (ys.getD j 0):=hr2;refine cl0 (oI (hr.ext e3) hr2 (Nat.le_trans (mZ hx j) dcd) (Nat.le_trans (mZ hy j) dcd)) ?_;intro r4 r5 w4 e4 hr4;obtain⟨hr4,hrf⟩:=hr4;have hr4:Zr w4 r4 r5 (xs.getD j 0+ys.getD j 0):=hr4;have e24:=(e2.trans e3).trans e4;refine (ho.ext e24).push (e1.trans e24) (by simp;omega) hr4.el (λhne c hc=>⟨λhs=>?_,hr4.1.lt_blk hne c hc⟩) λs' w5 h5 e5 _=>ab om om ⟨N-(j+1),om,j+1,om,rfl,om,by rw [bV _ om,dh];exact h5,e5⟩
   have h1:=hrf c hc;have h2:=(ho.lt_blk c hs).2;have h3:=(e2.trans e3).size;omega
  ·have:j=N:=om;subst this;exact⟨by rwa [List.take_of_length_le om] at ho,e1⟩
 rintro out w7 ⟨ho,e7⟩;refine c1 (jo ho.rq om) ?_;rintro s1 w8 e8 rfl;have hc:=(ho.cut (ak _)).ext e8;rw [eK] at hc;exact rt1 (c:=.slice) _ (e7.trans e8) hc.rq.at
theorem rG(ha:Rq (dg B32) w a xs)(hb:Rq (dg B32) w b ys)(hl:xs.length≤65536)(hl2:ys.length≤65536)(hx:hgt xs≤400000)(hy:hgt ys≤400000):Ct Pg F.cx [a.v,b.v] w aa [.one .slice] λ(s:Sl) w'=>Rq (dg B32) w' s (Sb xs ys):=by
 refine Ct.cx ?_;unfold Sh.cx;have na:=ha.len;have nb:=hb.len;obtain⟨N,hN⟩:∃N,N=max xs.length ys.length:=⟨_,rfl⟩;have hlen:=kj xs (ngz ys);rw [vi] at hlen;refine j1 (λ(out:Sl) w7=>Oq (dg B32) w7 w.here.w.heap.size T.am out (et xs (ngz ys))∧Ext aa w.here w7) ?_ ?_
 ·refine lp2 (λM (out:Sl) (i:Int) w1=>∃j:Nat,i=j∧M=N-j∧j≤N∧Oq (dg B32) w1 w.here.w.heap.size T.am out ((et xs (ngz ys)).take j)∧Ext aa w.here w1) N ⟨0,rfl,om,om,Oq.nil _ _ _ _,Ext.refl _ _⟩ ?_;rintro M out i w1 ⟨j,rfl,rfl,hj,ho,e1⟩;refine ag (y:=(N:Int)) (by split<;>omega) ?_;refine ac (λh=>?_) (λh=>?_)
  ·refine cl0 (l5 (i:=j) (ha.here.ext e1) om) ?_;intro r r1 w2 e2 hr;have hr:Zr w2 r r1 (xs.getD j 0):=hr;refine cl0 (l5 (i:=j) (hb.here.ext (e1.trans e2)) om) ?_;intro r2 r3 w3 e3 hr2;have hr2:Zr w3 r2 r3 (ys.getD j 0):=hr2;refine cl0 (xc (hr.ext e3) hr2 (Nat.le_trans (mZ hx j) dcd) (Nat.le_trans (mZ hy j) dcd)) ?_;intro r4 r5 w4 e4 hr4;obtain⟨hr4,hrf⟩:=hr4;have hr4:Zr w4 r4 r5 (xs.getD j 0-ys.getD j 0):=hr4;have e24:=(e2.trans e3).trans e4;refine (ho.ext e24).push (e1.trans e24) (by simp;omega) hr4.el (λhne c hc=>⟨λhs=>?_,hr4.1.lt_blk hne c hc⟩) λs' w5 h5 e5 _=>ab om om ⟨N-(j+1),om,j+1,om,rfl,om,by rw [bV _ om,dh,mU];exact h5,e5⟩
   have h1:=hrf c hc;have h2:=(ho.lt_blk c hs).2;have h3:=(e2.trans e3).size;omega
  ·have:j=N:=om;subst this;exact⟨by rwa [List.take_of_length_le om] at ho,e1⟩
 rintro out w7 ⟨ho,e7⟩;refine c1 (jo ho.rq om) ?_;rintro s1 w8 e8 rfl;have hc:=(ho.cut (ak _)).ext e8;rw [eK] at hc;exact rt1 (c:=.slice) _ (e7.trans e8) hc.rq.at
def shy(k:Nat)(zs:List Int):List Int:=if zs=[] then [] else shz k zs
theorem qP(k:Nat)(zs:List Int)(i:Nat):(shy k zs).getD i 0=(shz k zs).getD i 0:=by
 unfold shy;split
 ·rename_i h;rw [h,iM];split<;>simp
 ·rfl
theorem uU(k:Nat)(zs:List Int):(shy k zs).length≤k+zs.length:=by
 unfold shy;split
 ·simp
 ·simp [shz]
theorem mM{k:Nat}(ha:Rq (dg B32) w a zs)(hl:zs.length≤65536)(hk:k≤65536):Ct Pg F.bi [a.v,.int .i64 k] w aa [.one .slice] λ(s:Sl) w'=>Rq (dg B32) w' s (shy k zs):=by
 refine Ct.bi ?_;unfold Sh.bi;have na:=ha.len;by_cases hne:zs=[]
 ·subst hne;refine bf (by rw [na];rfl) ?_;refine rt1 (c:=.slice) Sl.nil (Ext.refl _ _) ?_;rw [shy,if_pos rfl];exact (Oq.nil _ _ 0 T.am).rq
 have hpos:0<zs.length:=List.length_pos_iff.2 hne;refine ap (by rw [na];simp;exact hne) ?_;refine yN (N:=k) rfl om λs w1 h1 ns e1 _=>?_
 obtain⟨ts,g1,g2,g3⟩:=ha;refine⟨w.here.w.heap.size,_,ts.flatMap iv,h1,g1.here.extN e1,e1.size,λv hv=>?_,?_,?_,λs' w' ho _ hx _=>?_⟩
 ·obtain⟨q,_,hv⟩:=List.mem_flatMap.1 hv;simp only [iv,List.mem_cons,List.not_mem_nil,or_false] at hv;rcases hv with rfl|rfl<;>rfl
 ·rw [ns,na];show k+zs.length≤9223372036854775807;omega
 ·rw [ns,na];show (k+zs.length)*32≤_;omega
 have hX:∀c,s.blk=some c→w.here.w.heap.size≤c:=λc hc=>(h1.from_ c hc).1
 have e':Ext aa w.here w':=e1.own hx hX;rw [←List.flatMap_append] at ho;refine rt1 (c:=.slice) _ e' ?_;rw [shy,if_neg hne];refine⟨_,ho.rdv,by simp [shz,g2],λi hi=>?_⟩;simp only [List.length_append,List.length_replicate] at hi;have hz:El (dg B32) w' (Sl.nil,false) 0:=⟨by show Rd w' Sl.nil (dg B32 0);rw [ba];exact Rd.nil _,rfl⟩;rw [iM];rcases Nat.lt_or_ge i k with h|h
 ·rw [if_pos h,List.getElem_append_left (by simpa using h),List.getElem_replicate];exact⟨Rd.at_ hz.1,hz.2⟩
 ·rw [if_neg om,List.getElem_append_right (by simpa using h)];simp only [List.length_replicate];have:=g3 (i-k) om;have:=El.ext (⟨this.1.here,this.2⟩:El (dg B32) w.here ts[i-k] (zs.getD (i-k) 0)) e';exact⟨Rd.at_ this.1,this.2⟩
end
section
variable {a b b':List Int} {w:TW} {s:Sl}
theorem zJ(h:∀i,b.getD i 0=b'.getD i 0):Sb a b=Sb a b':=(Nm.trim _).ext (Nm.trim _) λi=>(lf a b i).trans (by rw [h,←lf])
theorem zK(h:∀i,b.getD i 0=b'.getD i 0):Ad a b=Ad a b':=(Nm.trim _).ext (Nm.trim _) λi=>(pb a b i).trans (by rw [h,←pb])
theorem vm{k:Nat}{n:Nat}(ha:hgt a≤n):hgt (shy k a)≤n:=fz λi=>by
 rw [qP];exact bM (pv ha) i
theorem yh(a b:List Int):(Ad a b).length≤max a.length b.length:=Nat.le_trans (ak _) (Nat.le_of_eq (kj a b))
theorem abU(a b:List Int):(Sb a b).length≤max a.length b.length:=Nat.le_trans (ak _) (by rw [kj,vi];exact Nat.le_refl _)
theorem ph(a b:List Int):∀i,(prz a b i).1.length≤a.length+1∧(prz a b i).2.length≤a.length+b.length
 | 0=>by simp [prz]
 | i+1=>by
  obtain⟨h1,h2⟩:=ph a b i;have k1:=jK (b.getD (b.length-1) 0) (prz a b i).1;have k2:=jK (b.getD (b.length-1) 0) (prz a b i).2;have k3:=jK ((prz a b i).2.getD (a.length-1-i) 0) b;have k4:=ak [(prz a b i).2.getD (a.length-1-i) 0];have k5:=yh (Sc (b.getD (b.length-1) 0) (prz a b i).1) (shz (a.length-i-b.length) (ae [(prz a b i).2.getD (a.length-1-i) 0]));have k6:=abU (Sc (b.getD (b.length-1) 0) (prz a b i).2) (shz (a.length-i-b.length) (Sc ((prz a b i).2.getD (a.length-1-i) 0) b));rw [shz,List.length_append,List.length_replicate] at k5 k6;simp only [List.length_singleton] at k4;unfold prz;exact⟨by simp only [shz] at *;omega,by simp only [shz] at *;omega⟩
theorem xp{b:Bool}{z:Int}(h:Zr w s b z){e:TypeId}{K:Nat→TW→Prop}(hK:∀c w',Rq (dg B32) w' ⟨some ⟨c,0,none⟩,1,1⟩ [z]→Ext aa w w'→K c w'):nwb w [s.v,.bool b] e K:=
 abq (ts:=[(s,b)]) (n:=1) rfl dcd λc w' hr e'=>hK c w' ⟨[(s,b)],hr,rfl,λi hi=>by
  match i,hi with
  | 0,_=>exact (h.ext e').el⟩ e'
theorem Rq.trim1{zs:List Int}(h:Rq (dg B32) w s zs):Rq (dg B32) w (s.cut 0 (ae zs).length 2) (ae zs):=by
 have:=h.cut (Nat.zero_le _) (ak zs);rw [List.drop_zero,eK] at this;exact this
set_option maxHeartbeats 1000000 in
theorem th{a b:Sl}{X Y:List Int}{A B:Nat}(ha:Rq (dg B32) w a X)(hb:Rq (dg B32) w b Y)(hne:Y≠[])(hl:X.length≤1000)(hl2:Y.length≤1000)(hA:hgt X≤A)(hB:hgt Y≤B)(hB2:B≤200000)(hS:A+(X.length+1-Y.length)*(B+1)≤200000):Ct Pg F.bO [a.v,b.v] w aa [.one .slice,.one .slice,.one (.int .i64)] λ(q r:Sl)(k:Int) w'=>Rq (dg B32) w' q (prz X Y (X.length+1-Y.length)).1∧Rq (dg B32) w' r (l6 X Y)∧k=((X.length+1-Y.length:Nat):Int):=by
 refine Ct.bO ?_;unfold Sh.bO;have na:=ha.len;have nb:=hb.len;have hpos:0<Y.length:=List.length_pos_iff.2 hne;rw [na,nb];obtain⟨K,hK⟩:∃K,X.length+1-Y.length=K:=⟨_,rfl⟩;rw [hK] at hS;refine ab om om (ab om om ?_);refine ag (y:=(K:Int)) (by split<;>omega) ?_;refine ag (y:=((Y.length-1:Nat):Int)) ((au om om).trans om) ?_;refine hb.here.ix (j:=Y.length-1) rfl om λa1 tt hel _ q0 q1=>ldp q0 q1 ?_
 intro w1 e1 w2 e2;have e12:=e1.trans e2;have hc:Zr w2 tt.1 tt.2 (ldz Y):=hel.zr.ext e12;have ha2:=ha.here.ext e12;have hb2:=hb.here.ext e12;have hcb:bl (ldz Y).natAbs≤B:=bM hB _;have hstep:∀{j:Nat},j≤K→A+j*(B+1)≤200000:=λhj=>Nat.le_trans (Nat.add_le_add_left (Nat.mul_le_mul_right _ hj) _) hS
 refine j2 (λ(q:Sl)(r:Sl) w21=>Rq (dg B32) w21 q (prz X Y K).1∧Rq (dg B32) w21 r (prz X Y K).2∧Ext aa w2 w21) ?_ ?_
 ·refine lp5 (λM (q:Sl) (r:Sl) (i:Int) (c:Sl) (c1:Bool) w3=>c=tt.1∧c1=tt.2∧∃j:Nat,i=j∧M=K-j∧j≤K∧Rq (dg B32) w3 q (prz X Y j).1∧Rq (dg B32) w3 r (prz X Y j).2∧Ext aa w2 w3) K ⟨rfl,rfl,0,rfl,om,om,(Oq.nil _ _ 0 T.am).rq,ha2,Ext.refl _ _⟩ ?_;rintro M q r i c c1 w3 ⟨rfl,rfl,j,rfl,rfl,hj,hq,hr,e3⟩;refine ac (λh=>?_) (λh=>?_)
  ·have hj':j+1≤K:=om;obtain⟨g1,g2⟩:=pj hA hB j;obtain⟨l1,l2⟩:=ph X Y j;have hs0:=hstep hj;have hs1:=hstep hj';rw [Nat.add_mul,Nat.one_mul] at hs1;obtain⟨t,ht⟩:∃t,(prz X Y j).2.getD (X.length-1-j) 0=t:=⟨_,rfl⟩;have htb:bl t.natAbs≤A+j*(B+1):=by rw [←ht];exact bM g2 _
   have hp1:(prz X Y (j+1)).1=Ad (Sc (ldz Y) (prz X Y j).1) (shz (X.length-j-Y.length) (ae [t])):=by rw [prz,ht];rfl
   have hp2:(prz X Y (j+1)).2=Sb (Sc (ldz Y) (prz X Y j).2) (shz (X.length-j-Y.length) (Sc t Y)):=by rw [prz,ht];rfl
   generalize (prz X Y j).1=Q at*;generalize (prz X Y j).2=R at*;refine ab om om ?_;refine ag (y:=((X.length-1-j:Nat):Int)) ((au om om).trans om) ?_;refine cl0 (l5 (i:=X.length-1-j) hr om) ?_;intro r1 r2 w4 e4 ht4;have ht4:Zr w4 r1 r2 t:=ht▸ht4
   intro w5 e5 w6 e6;have e46:=(e4.trans (e5.trans e6)).drew;refine ab om om ?_;refine ag (y:=((X.length-j-Y.length:Nat):Int)) ((au om om).trans om) ?_;have ht6:Zr w6.drew r1 r2 t:=ht4.ext (e5.trans e6).drew;have e36:=e3.trans e46;refine c1 (jV (hr.ext e46) (hc.ext e36) om om om) λs w7 e7 h7=>?_
   refine c1 (jV (hb2.ext (e36.trans e7)) (ht6.ext e7) om om om) λs1 w8 e8 h8=>?_
   have lS1:=jK t Y;refine c1 (mM (k:=X.length-j-Y.length) h8 om om) λs2 w9 e9 h9=>?_
   have gS:hgt (Sc (ldz Y) R)≤A+j*(B+1)+B:=jH g2 hcb;have gT:hgt (Sc t Y)≤B+(A+j*(B+1)):=jH hB htb;have lS:=jK (ldz Y) R;have lT:=uU (X.length-j-Y.length) (Sc t Y);refine c1 (rG (h7.ext (e8.trans e9)) h9 om om om (Nat.le_trans (vm gT) om)) λs3 w10 e10 h10=>?_
   rw [zJ (qP _ _),←hp2] at h10;refine ab om om ?_;refine ag (y:=((X.length-j-Y.length:Nat):Int)) ((au om om).trans om) ?_;have e610:=((e7.trans e8).trans e9).trans (e10.drew);have h10d:=h10.ext (Ext.refl _ _).drew;have ht10:=ht6.ext e610;have hq10:=hq.ext (e46.trans e610);have hc10:=hc.ext (e36.trans e610);have gQ:hgt (Sc (ldz Y) Q)≤A+j*(B+1)+B:=jH g1 hcb
   have g1t:hgt (ae [t])≤A+j*(B+1):=fz λi=>by
    rw [oK];split
    ·exact htb
    ·simp [fb]
   have lQ:=jK (ldz Y) Q;have l1t:=ak [t];simp only [List.length_singleton] at l1t;have lT2:=uU (X.length-j-Y.length) (ae [t])
   have tl:∀{v:TW} {s4 s6:Sl} {C0:Sl→Int→TW→Prop},Ext aa w10.drew v→Rq (dg B32) v s4 (Sc (ldz Y) Q)→Rq (dg B32) v s6 (shy (X.length-j-Y.length) (ae [t]))→(∀s7 w',Ext aa w2 w'→Rq (dg B32) w' s7 (prz X Y (j+1)).1→Rq (dg B32) w' s3 (prz X Y (j+1)).2→C0 s7 ((j+1:Nat):Int) w')→cl Pg F.bq [s4.v,s6.v] v [.one .slice] λ(s7:Sl) w15=>bnd (wi (((j:Nat):Int)+1)) λn10=>C0 s7 n10 w15:=by
    intro v s4 s6 C0 ev h4 h6 hC;refine c1 (rI h4 h6 om om om (Nat.le_trans (vm g1t) om)) λs7 w15 e15 h15=>?_
    rw [zK (qP _ _),←hp1] at h15;exact ag (y:=((j+1:Nat):Int)) ((au om om).trans om) (hC s7 w15 (((e36.trans e610).trans ev).trans e15) h15 (h10d.ext (ev.trans e15)))
   have fin:∀s7 w',Ext aa w2 w'→Rq (dg B32) w' s7 (prz X Y (j+1)).1→Rq (dg B32) w' s3 (prz X Y (j+1)).2→∃m',m'<K-j∧tt.1=tt.1∧tt.2=tt.2∧∃j':Nat,((j+1:Nat):Int)=j'∧m'=K-j'∧j'≤K∧Rq (dg B32) w' s7 (prz X Y j').1∧Rq (dg B32) w' s3 (prz X Y j').2∧Ext aa w2 w':=λs7 w' e k1 k2=>⟨K-(j+1),om,rfl,rfl,j+1,rfl,rfl,hj',k1,k2,e⟩
   refine⟨?_,?_⟩
   ·refine c1 (jV hq10 hc10 om om om) λs4 w11 e11 h11=>?_
    refine xp (ht10.ext e11) λb1 w12 h12 e12=>?_
    refine c1 (jo (a:=⟨some ⟨b1,0,none⟩,1,1⟩) h12 smp) ?_;rintro _ w13 e13 rfl;refine c1 (mM (k:=X.length-j-Y.length) (h12.trim1.ext e13) om om) λs6 w14 e14 h14=>?_
    have e1114:=(e12.trans e13).trans e14;exact tl (e11.trans e1114) (h11.ext e1114) h14 fin
   ·refine xp ht10 λb1 w11 h11 e11=>?_
    refine c1 (jV (hq10.ext e11) (hc10.ext e11) om om om) λs4 w12 e12 h12=>?_
    refine c1 (jo (a:=⟨some ⟨b1,0,none⟩,1,1⟩) (h11.ext e12) smp) ?_;rintro _ w13 e13 rfl;refine c1 (mM (k:=X.length-j-Y.length) (h11.trim1.ext (e12.trans e13)) om om) λs6 w14 e14 h14=>?_
    have e1314:=e13.trans e14;exact tl ((e11.trans e12).trans e1314) (h12.ext e1314) h14 fin
  ·have:j=K:=om;subst this;exact⟨hq,hr,e3⟩
 rintro q r w21 ⟨h3,h4,e21⟩;rw [hK];exact rt3 (c:=.slice) (d:=.slice) (e:=.int .i64) q r (K:Int) (e12.trans e21) ⟨h3.at,by unfold l6;rw [hK];exact h4.at,rfl⟩
end
end Go.Proofs.YtpbimnlggalnfaaGreatDoor.Zg
