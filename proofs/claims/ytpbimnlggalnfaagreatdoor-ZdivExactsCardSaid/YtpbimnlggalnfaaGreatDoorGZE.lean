/- A part of the proofs of this seat's laws. -/
import Derived.Test.YtpbimnlggalnfaaGreatDoorGZD
import Derived.Test.YtpbimnlggalnfaaGreatDoorGP5
import Derived.Test.YtpbimnlggalnfaaGreatDoorGA
import Derived.Test.YtpbimnlggalnfaaGreatDoorGMA
import Derived.Test.YtpbimnlggalnfaaGreatDoorGMB
import Derived.Test.YtpbimnlggalnfaaGreatDoorGMD
import Derived.Test.YtpbimnlggalnfaaGreatDoorGME
import Derived.Test.YtpbimnlggalnfaaGreatDoorGKA
import Derived.Test.YtpbimnlggalnfaaGreatDoorGKE
import Derived.Test.YtpbimnlggalnfaaGreatDoorGIA
import Derived.Test.YtpbimnlggalnfaaGreatDoorGKC
import Derived.Test.YtpbimnlggalnfaaGreatDoorGHA
import Derived.Test.YtpbimnlggalnfaaGreatDoorGB
import Derived.Test.YtpbimnlggalnfaaGreatDoorGIB
import Derived.Test.YtpbimnlggalnfaaGreatDoorGJA
import Derived.Test.YtpbimnlggalnfaaGreatDoorGJB
import Derived.Test.YtpbimnlggalnfaaGreatDoorGHD
import Derived.Test.YtpbimnlggalnfaaGreatDoorGK
import Derived.Test.YtpbimnlggalnfaaGreatDoorGQ
import Derived.Test.YtpbimnlggalnfaaGreatDoorGMC
import Derived.Test.YtpbimnlggalnfaaGreatDoorGNA
import Derived.Test.YtpbimnlggalnfaaGreatDoorGNB
import Derived.Test.YtpbimnlggalnfaaGreatDoorGNC
import Derived.Test.YtpbimnlggalnfaaGreatDoorGND
import Derived.Test.YtpbimnlggalnfaaGreatDoorGZC
import Derived.Test.YtpbimnlggalnfaaGreatDoorGP
import Derived.Test.YtpbimnlggalnfaaGreatDoorGP1
import Derived.Test.YtpbimnlggalnfaaGreatDoorGP2
import Derived.Test.YtpbimnlggalnfaaGreatDoorGP3
import Derived.Test.YtpbimnlggalnfaaGreatDoorGP4
import Derived.Test.YtpbimnlggalnfaaGreatDoorGP6
import Derived.Test.YtpbimnlggalnfaaGreatDoorGS
import Derived.Test.YtpbimnlggalnfaaGreatDoorGC
import Derived.Test.YtpbimnlggalnfaaGreatDoorGZA
import Derived.Test.YtpbimnlggalnfaaGreatDoorGZB
set_option linter.unusedVariables false
set_option linter.unusedSimpArgs false
set_option linter.unnecessarySimpa false
namespace Go.Proofs.YtpbimnlggalnfaaGreatDoor.Zg
open Go.RowKit
section
variable {w:TW} {a b:Sl} {xs ys zs:List Int}
theorem mw{l:List Int}{n:Nat}(h:hgt l≤n)(i:Nat):dz (l.getD i 0).natAbs≤2*(n/64+1):=kl (ni h i)
theorem nJ{i:Nat}(ha:Rq (dg B32) w a zs)(hi:i≤1048576):Ct Pg F.bI [a.v,.int .i64 i] w aa [.agg [.slice,.bool]] λ(s:Sl)(n:Bool) w'=>Zr w' s n (zs.getD i 0):=by
 refine Ct.bI ?_;unfold Sh.bI;have na:=ha.len;intro w1 e1;refine j3 (λ(x:Bool)(_:Sl)(_:Bool) w2=>x=decide (zs.length≤i)∧w2=w1) ?_ ?_
 ·refine ac (λh=>absurd h om) (λ_=>⟨?_,rfl⟩);rw [decide_eq_decide];omega
 rintro x _ _ w2 ⟨rfl,rfl⟩;refine ac (λh=>?_) (λh=>?_)
 ·intro w3 e3;refine⟨(Sl.nil,false,()),rfl,e1.trans e3,?_⟩;rw [fE h];exact⟨Dr.nil _,rfl⟩
 ·refine (ha.here.ext e1).ix (j:=i) rfl om λa1 tt hel _ q0 q1=>ldp q0 q1 ?_
  intro w4 e4;exact⟨(_,_,()),rfl,e1.trans e4,((hel.ext e4).zr).at⟩
theorem uG{cs:Sl}{cn:Bool}{z:Int}(ha:Rq (dg B32) w a zs)(hc:Zr w cs cn z)(hl:zs.length≤65536)(hz:hgt zs≤200000)(hcz:bl z.natAbs≤200000):Ct Pg F.aE [a.v,.agg #[cs.v,.bool cn]] w aa [.one .slice] λ(s:Sl) w'=>Rq (dg B32) w' s (Sc z zs):=by
 refine Ct.aE ?_;unfold Sh.aE;have na:=ha.len;have dcz:dz z.natAbs≤6252:=Nat.le_trans (kl (dB hcz)) dcd;intro w1 e1;have ha1:=ha.here.ext e1;have hc1:=hc.here.ext e1;have hm:∀j,(zs.map (·*z)).getD j 0=zs.getD j 0*z:=ki smp zs;refine j1 (λ(out:Sl) w6=>Oq (dg B32) w6 w1.w.heap.size T.aj out (zs.map (·*z))∧Ext aa w1 w6) ?_ ?_
 ·refine lp4 (λM (out:Sl) (i:Int) (c2:Sl) (c3:Bool) w2=>c2=cs∧c3=cn∧∃j:Nat,i=j∧M=zs.length-j∧j≤zs.length∧Oq (dg B32) w2 w1.w.heap.size T.aj out ((zs.map (·*z)).take j)∧Ext aa w1 w2) zs.length ⟨rfl,rfl,0,rfl,om,om,Oq.nil _ _ _ _,Ext.refl _ _⟩ ?_;rintro M out i c2 c3 w2 ⟨rfl,rfl,j,rfl,rfl,hj,ho,e2⟩;refine ac (λh=>?_) (λh=>?_)
  ·have ed:Ext aa w2 w2.drew:=(Ext.refl _ _).drew;refine (ha1.ext (e2.trans ed)).ix (j:=j) rfl om λa1 tt hel _ q0 q1=>ldp q0 q1 ?_
   refine cl0 (rM hel.zr (hc1.ext (e2.trans ed)) (Nat.le_trans (mw hz j) dcd) om) ?_;intro r r1 w3 e3 hr;obtain⟨hr,hrf⟩:=hr;have hr:Zr w3 r r1 (zs.getD j 0*z):=hr;have e23:=ed.trans e3;refine (ho.ext e23).push (e2.trans e23) (by simp;omega) hr.el (λhne c hc=>⟨λhs=>?_,hr.1.lt_blk hne c hc⟩) λs' w5 h5 e5 _=>ab om om ⟨zs.length-(j+1),om,rfl,rfl,j+1,om,rfl,om,by rw [bV _ (by simpa using (show j<zs.length by omega)),hm];exact h5,e5⟩
   have h1:=hrf c hc;have h2:=(ho.lt_blk c hs).2;have h1:w2.w.heap.size≤c:=h1;omega
  ·have:j=zs.length:=om;subst this;exact⟨by rwa [List.take_of_length_le smp] at ho,e2⟩
 rintro out w6 ⟨ho,e6⟩;refine c1 (kJ ho.rq (by simp;omega)) ?_;rintro s1 w7 e7 rfl;have hc:=(ho.cut (ap _)).ext e7;rw [fu] at hc;exact rt1 (c:=.slice) _ ((e1.trans e6).trans e7) hc.rq.at
theorem aaS(xs:List Int):(ngz xs).length=xs.length:=by simp [ngz]
theorem xu(ha:Rq (dg B32) w a xs)(hb:Rq (dg B32) w b ys)(hl:xs.length≤65536)(hl2:ys.length≤65536)(hx:hgt xs≤400000)(hy:hgt ys≤400000):Ct Pg F.aN [a.v,b.v] w aa [.one .slice] λ(s:Sl) w'=>Rq (dg B32) w' s (Ad xs ys):=by
 refine Ct.aN ?_;unfold Sh.aN;have na:=ha.len;have nb:=hb.len;obtain⟨N,hN⟩:∃N,N=max xs.length ys.length:=⟨_,rfl⟩;have hlen:=kt xs ys;refine j1 (λ(out:Sl) w7=>Oq (dg B32) w7 w.here.w.heap.size T.aj out (fg xs ys)∧Ext aa w.here w7) ?_ ?_
 ·refine lp2 (λM (out:Sl) (i:Int) w1=>∃j:Nat,i=j∧M=N-j∧j≤N∧Oq (dg B32) w1 w.here.w.heap.size T.aj out ((fg xs ys).take j)∧Ext aa w.here w1) N ⟨0,rfl,om,om,Oq.nil _ _ _ _,Ext.refl _ _⟩ ?_;rintro M out i w1 ⟨j,rfl,rfl,hj,ho,e1⟩;refine ah (y:=(N:Int)) (by split<;>omega) ?_;refine ac (λh=>?_) (λh=>?_)
  ·refine cl0 (nJ (i:=j) (ha.here.ext e1) om) ?_;intro r r1 w2 e2 hr;have hr:Zr w2 r r1 (xs.getD j 0):=hr;refine cl0 (nJ (i:=j) (hb.here.ext (e1.trans e2)) om) ?_;intro r2 r3 w3 e3 hr2;have hr2:Zr w3 r2 r3 (ys.getD j 0):=hr2;refine cl0 (oK (hr.ext e3) hr2 (Nat.le_trans (mw hx j) dcd) (Nat.le_trans (mw hy j) dcd)) ?_;intro r4 r5 w4 e4 hr4;obtain⟨hr4,hrf⟩:=hr4;have hr4:Zr w4 r4 r5 (xs.getD j 0+ys.getD j 0):=hr4;have e24:=(e2.trans e3).trans e4;refine (ho.ext e24).push (e1.trans e24) (by simp;omega) hr4.el (λhne c hc=>⟨λhs=>?_,hr4.1.lt_blk hne c hc⟩) λs' w5 h5 e5 _=>ab om om ⟨N-(j+1),om,j+1,om,rfl,om,by rw [bV _ om,eK];exact h5,e5⟩
   have h1:=hrf c hc;have h2:=(ho.lt_blk c hs).2;have h3:=(e2.trans e3).size;omega
  ·have:j=N:=om;subst this;exact⟨by rwa [List.take_of_length_le om] at ho,e1⟩
 rintro out w7 ⟨ho,e7⟩;refine c1 (kJ ho.rq om) ?_;rintro s1 w8 e8 rfl;have hc:=(ho.cut (ap _)).ext e8;rw [fu] at hc;exact rt1 (c:=.slice) _ (e7.trans e8) hc.rq.at
theorem xp(ha:Rq (dg B32) w a xs)(hb:Rq (dg B32) w b ys)(hl:xs.length≤65536)(hl2:ys.length≤65536)(hx:hgt xs≤400000)(hy:hgt ys≤400000):Ct Pg F.aM [a.v,b.v] w aa [.one .slice] λ(s:Sl) w'=>Rq (dg B32) w' s (Sb xs ys):=by
 refine Ct.aM ?_;unfold Sh.aM;have na:=ha.len;have nb:=hb.len;obtain⟨N,hN⟩:∃N,N=max xs.length ys.length:=⟨_,rfl⟩;have hlen:=kt xs (ngz ys);rw [aaS] at hlen;refine j1 (λ(out:Sl) w7=>Oq (dg B32) w7 w.here.w.heap.size T.aj out (fg xs (ngz ys))∧Ext aa w.here w7) ?_ ?_
 ·refine lp2 (λM (out:Sl) (i:Int) w1=>∃j:Nat,i=j∧M=N-j∧j≤N∧Oq (dg B32) w1 w.here.w.heap.size T.aj out ((fg xs (ngz ys)).take j)∧Ext aa w.here w1) N ⟨0,rfl,om,om,Oq.nil _ _ _ _,Ext.refl _ _⟩ ?_;rintro M out i w1 ⟨j,rfl,rfl,hj,ho,e1⟩;refine ah (y:=(N:Int)) (by split<;>omega) ?_;refine ac (λh=>?_) (λh=>?_)
  ·refine cl0 (nJ (i:=j) (ha.here.ext e1) om) ?_;intro r r1 w2 e2 hr;have hr:Zr w2 r r1 (xs.getD j 0):=hr;refine cl0 (nJ (i:=j) (hb.here.ext (e1.trans e2)) om) ?_;intro r2 r3 w3 e3 hr2;have hr2:Zr w3 r2 r3 (ys.getD j 0):=hr2;refine cl0 (xw (hr.ext e3) hr2 (Nat.le_trans (mw hx j) dcd) (Nat.le_trans (mw hy j) dcd)) ?_;intro r4 r5 w4 e4 hr4;obtain⟨hr4,hrf⟩:=hr4;have hr4:Zr w4 r4 r5 (xs.getD j 0-ys.getD j 0):=hr4;have e24:=(e2.trans e3).trans e4;refine (ho.ext e24).push (e1.trans e24) (by simp;omega) hr4.el (λhne c hc=>⟨λhs=>?_,hr4.1.lt_blk hne c hc⟩) λs' w5 h5 e5 _=>ab om om ⟨N-(j+1),om,j+1,om,rfl,om,by rw [bV _ om,eK,pr];exact h5,e5⟩
   have h1:=hrf c hc;have h2:=(ho.lt_blk c hs).2;have h3:=(e2.trans e3).size;omega
  ·have:j=N:=om;subst this;exact⟨by rwa [List.take_of_length_le om] at ho,e1⟩
 rintro out w7 ⟨ho,e7⟩;refine c1 (kJ ho.rq om) ?_;rintro s1 w8 e8 rfl;have hc:=(ho.cut (ap _)).ext e8;rw [fu] at hc;exact rt1 (c:=.slice) _ (e7.trans e8) hc.rq.at
def shy(k:Nat)(zs:List Int):List Int:=if zs=[] then [] else shz k zs
theorem qQ(k:Nat)(zs:List Int)(i:Nat):(shy k zs).getD i 0=(shz k zs).getD i 0:=by
 unfold shy;split
 ·rename_i h;rw [h,iV];split<;>simp
 ·rfl
theorem vj(k:Nat)(zs:List Int):(shy k zs).length≤k+zs.length:=by
 unfold shy;split
 ·simp
 ·simp [shz]
theorem pH{k:Nat}(ha:Rq (dg B32) w a zs)(hl:zs.length≤65536)(hk:k≤65536):Ct Pg F.am [a.v,.int .i64 k] w aa [.one .slice] λ(s:Sl) w'=>Rq (dg B32) w' s (shy k zs):=by
 refine Ct.am ?_;unfold Sh.am;have na:=ha.len;by_cases hne:zs=[]
 ·subst hne;refine bg (by rw [na];rfl) ?_;refine rt1 (c:=.slice) Sl.nil (Ext.refl _ _) ?_;rw [shy,if_pos rfl];exact (Oq.nil _ _ 0 T.aj).rq
 have hpos:0<zs.length:=List.length_pos_iff.2 hne;refine aq (by rw [na];simp;exact hne) ?_;refine yY (N:=k) rfl om λs w1 h1 ns e1 _=>?_
 obtain⟨ts,g1,g2,g3⟩:=ha;refine⟨w.here.w.heap.size,_,ts.flatMap iv,h1,g1.here.extN e1,e1.size,λv hv=>?_,?_,?_,λs' w' ho _ hx _=>?_⟩
 ·obtain⟨q,_,hv⟩:=List.mem_flatMap.1 hv;simp only [iv,List.mem_cons,List.not_mem_nil,or_false] at hv;rcases hv with rfl|rfl<;>rfl
 ·rw [ns,na];show k+zs.length≤9223372036854775807;omega
 ·rw [ns,na];show (k+zs.length)*32≤_;omega
 have hX:∀c,s.blk=some c→w.here.w.heap.size≤c:=λc hc=>(h1.from_ c hc).1
 have e':Ext aa w.here w':=e1.own hx hX;rw [←List.flatMap_append] at ho;refine rt1 (c:=.slice) _ e' ?_;rw [shy,if_neg hne];refine⟨_,ho.rdv,by simp [shz,g2],λi hi=>?_⟩;simp only [List.length_append,List.length_replicate] at hi;have hz:El (dg B32) w' (Sl.nil,false) 0:=⟨by show Rd w' Sl.nil (dg B32 0);rw [bf];exact Rd.nil _,rfl⟩;rw [iV];rcases Nat.lt_or_ge i k with h|h
 ·rw [if_pos h,List.getElem_append_left (by simpa using h),List.getElem_replicate];exact⟨Rd.at_ hz.1,hz.2⟩
 ·rw [if_neg om,List.getElem_append_right (by simpa using h)];simp only [List.length_replicate];have:=g3 (i-k) om;have:=El.ext (⟨this.1.here,this.2⟩:El (dg B32) w.here ts[i-k] (zs.getD (i-k) 0)) e';exact⟨Rd.at_ this.1,this.2⟩
end
section
variable {a b b':List Int}
theorem uw(h:∀i,b.getD i 0=b'.getD i 0):Sb a b=Sb a b':=(Nm.trim _).ext (Nm.trim _) λi=>(mH a b i).trans (by rw [h,←mH])
theorem zY(h:∀i,b.getD i 0=b'.getD i 0):Ad a b=Ad a b':=(Nm.trim _).ext (Nm.trim _) λi=>(ln a b i).trans (by rw [h,←ln])
theorem vA{k:Nat}{n:Nat}(ha:hgt a≤n):hgt (shy k a)≤n:=gn λi=>by
 rw [qQ];exact fI (rh ha) i
theorem ach(a b:List Int):(Ad a b).length≤max a.length b.length:=Nat.le_trans (ap _) (Nat.le_of_eq (kt a b))
theorem abF{w:TW}{s:Sl}{b:Bool}{z:Int}(h:Zr w s b z){e:TypeId}{K:Nat→TW→Prop}(hK:∀c w',Rq (dg B32) w' ⟨some ⟨c,0,none⟩,1,1⟩ [z]→Ext aa w w'→K c w'):nwb w [s.v,.bool b] e K:=
 abK (ts:=[(s,b)]) (n:=1) rfl dcd λc w' hr e'=>hK c w' ⟨[(s,b)],hr,rfl,λi hi=>by
  match i,hi with
  | 0,_=>exact (h.ext e').el⟩ e'
end
end Go.Proofs.YtpbimnlggalnfaaGreatDoor.Zg
