/- A part of the proofs of this seat's laws. -/
import Derived.Test.YtpbimnlggalnfaaGreatDoorGZD
import Derived.Test.YtpbimnlggalnfaaGreatDoorGP6
set_option linter.unusedVariables false
set_option linter.unusedSimpArgs false
set_option linter.unnecessarySimpa false
namespace Go.Proofs.YtpbimnlggalnfaaGreatDoor.Zg
open Go.RowKit
section
variable {w:TW} {a b:Sl} {xs ys zs:List Int}
theorem jz{l:List Int}{n:Nat}(h:hgt l≤n)(i:Nat):dz (l.getD i 0).natAbs≤2*(n/64+1):=iA (kJ h i)
theorem lI{i:Nat}(ha:Rq (dg B32) w a zs)(hi:i≤1048576):Ct Pg F.bO [a.v,.int .i64 i] w aa [.agg [.slice,.bool]] λ(s:Sl)(n:Bool) w'=>Zr w' s n (zs.getD i 0):=by
 refine Ct.bO ?_;unfold Sh.bO;have na:=ha.len;intro w1 e1;refine j3 (λ(x:Bool)(_:Sl)(_:Bool) w2=>x=decide (zs.length≤i)∧w2=w1) ?_ ?_
 ·refine ac (λh=>absurd h om) (λ_=>⟨?_,rfl⟩);rw [decide_eq_decide];omega
 rintro x _ _ w2 ⟨rfl,rfl⟩;refine ac (λh=>?_) (λh=>?_)
 ·intro w3 e3;refine⟨(Sl.nil,false,()),rfl,e1.trans e3,?_⟩;rw [gx h];exact⟨Dr.nil _,rfl⟩
 ·refine (ha.here.ext e1).ix (j:=i) rfl om λa1 tt hel _ q0 q1=>ldp q0 q1 ?_
  intro w4 e4;exact⟨(_,_,()),rfl,e1.trans e4,((hel.ext e4).zr).at⟩
theorem il{cs:Sl}{cn:Bool}{z:Int}(ha:Rq (dg B32) w a zs)(hc:Zr w cs cn z)(hl:zs.length≤65536)(hz:hgt zs≤200000)(hcz:bl z.natAbs≤200000):Ct Pg F.ai [a.v,.agg #[cs.v,.bool cn]] w aa [.one .slice] λ(s:Sl) w'=>Rq (dg B32) w' s (Sc z zs):=by
 refine Ct.ai ?_;unfold Sh.ai;have na:=ha.len;have dcz:dz z.natAbs≤6252:=Nat.le_trans (iA (dN hcz)) dcd;intro w1 e1;have ha1:=ha.here.ext e1;have hc1:=hc.here.ext e1;have hm:∀j,(zs.map (·*z)).getD j 0=zs.getD j 0*z:=fe smp zs;refine j1 (λ(out:Sl) w6=>Oq (dg B32) w6 w1.w.heap.size T.ae out (zs.map (·*z))∧Ext aa w1 w6) ?_ ?_
 ·refine lp4 (λM (out:Sl) (i:Int) (c2:Sl) (c3:Bool) w2=>c2=cs∧c3=cn∧∃j:Nat,i=j∧M=zs.length-j∧j≤zs.length∧Oq (dg B32) w2 w1.w.heap.size T.ae out ((zs.map (·*z)).take j)∧Ext aa w1 w2) zs.length ⟨rfl,rfl,0,rfl,om,om,Oq.nil _ _ _ _,Ext.refl _ _⟩ ?_;rintro M out i c2 c3 w2 ⟨rfl,rfl,j,rfl,rfl,hj,ho,e2⟩;refine ac (λh=>?_) (λh=>?_)
  ·have ed:Ext aa w2 w2.drew:=(Ext.refl _ _).drew;refine (ha1.ext (e2.trans ed)).ix (j:=j) rfl om λa1 tt hel _ q0 q1=>ldp q0 q1 ?_
   refine cl0 (kG hel.zr (hc1.ext (e2.trans ed)) (Nat.le_trans (jz hz j) dcd) om) ?_;intro r r1 w3 e3 hr;obtain⟨hr,hrf⟩:=hr;have hr:Zr w3 r r1 (zs.getD j 0*z):=hr;have e23:=ed.trans e3;refine (ho.ext e23).push (e2.trans e23) (by simp;omega) hr.el (λhne c hc=>⟨λhs=>?_,hr.1.lt_blk hne c hc⟩) λs' w5 h5 e5 _=>ab om om ⟨zs.length-(j+1),om,rfl,rfl,j+1,om,rfl,om,by rw [bC _ (by simpa using (show j<zs.length by omega)),hm];exact h5,e5⟩
   have h1:=hrf c hc;have h2:=(ho.lt_blk c hs).2;have h1:w2.w.heap.size≤c:=h1;omega
  ·have:j=zs.length:=om;subst this;exact⟨by rwa [List.take_of_length_le smp] at ho,e2⟩
 rintro out w6 ⟨ho,e6⟩;refine c1 (iH ho.rq (by simp;omega)) ?_;rintro s1 w7 e7 rfl;have hc:=(ho.cut (au _)).ext e7;rw [eS] at hc;exact rt1 (c:=.slice) _ ((e1.trans e6).trans e7) hc.rq.at
theorem vf(xs:List Int):(ngz xs).length=xs.length:=by simp [ngz]
theorem rh(ha:Rq (dg B32) w a xs)(hb:Rq (dg B32) w b ys)(hl:xs.length≤65536)(hl2:ys.length≤65536)(hx:hgt xs≤400000)(hy:hgt ys≤400000):Ct Pg F.aE [a.v,b.v] w aa [.one .slice] λ(s:Sl) w'=>Rq (dg B32) w' s (Ad xs ys):=by
 refine Ct.aE ?_;unfold Sh.aE;have na:=ha.len;have nb:=hb.len;obtain⟨N,hN⟩:∃N,N=max xs.length ys.length:=⟨_,rfl⟩;have hlen:=jX xs ys;refine j1 (λ(out:Sl) w7=>Oq (dg B32) w7 w.here.w.heap.size T.ae out (fR xs ys)∧Ext aa w.here w7) ?_ ?_
 ·refine lp2 (λM (out:Sl) (i:Int) w1=>∃j:Nat,i=j∧M=N-j∧j≤N∧Oq (dg B32) w1 w.here.w.heap.size T.ae out ((fR xs ys).take j)∧Ext aa w.here w1) N ⟨0,rfl,om,om,Oq.nil _ _ _ _,Ext.refl _ _⟩ ?_;rintro M out i w1 ⟨j,rfl,rfl,hj,ho,e1⟩;refine ak (y:=(N:Int)) (by split<;>omega) ?_;refine ac (λh=>?_) (λh=>?_)
  ·refine cl0 (lI (i:=j) (ha.here.ext e1) om) ?_;intro r r1 w2 e2 hr;have hr:Zr w2 r r1 (xs.getD j 0):=hr;refine cl0 (lI (i:=j) (hb.here.ext (e1.trans e2)) om) ?_;intro r2 r3 w3 e3 hr2;have hr2:Zr w3 r2 r3 (ys.getD j 0):=hr2;refine cl0 (mr (hr.ext e3) hr2 (Nat.le_trans (jz hx j) dcd) (Nat.le_trans (jz hy j) dcd)) ?_;intro r4 r5 w4 e4 hr4;obtain⟨hr4,hrf⟩:=hr4;have hr4:Zr w4 r4 r5 (xs.getD j 0+ys.getD j 0):=hr4;have e24:=(e2.trans e3).trans e4;refine (ho.ext e24).push (e1.trans e24) (by simp;omega) hr4.el (λhne c hc=>⟨λhs=>?_,hr4.1.lt_blk hne c hc⟩) λs' w5 h5 e5 _=>ab om om ⟨N-(j+1),om,j+1,om,rfl,om,by rw [bC _ om,fV];exact h5,e5⟩
   have h1:=hrf c hc;have h2:=(ho.lt_blk c hs).2;have h3:=(e2.trans e3).size;omega
  ·have:j=N:=om;subst this;exact⟨by rwa [List.take_of_length_le om] at ho,e1⟩
 rintro out w7 ⟨ho,e7⟩;refine c1 (iH ho.rq om) ?_;rintro s1 w8 e8 rfl;have hc:=(ho.cut (au _)).ext e8;rw [eS] at hc;exact rt1 (c:=.slice) _ (e7.trans e8) hc.rq.at
theorem wJ(ha:Rq (dg B32) w a xs)(hb:Rq (dg B32) w b ys)(hl:xs.length≤65536)(hl2:ys.length≤65536)(hx:hgt xs≤400000)(hy:hgt ys≤400000):Ct Pg F.dt [a.v,b.v] w aa [.one .slice] λ(s:Sl) w'=>Rq (dg B32) w' s (Sb xs ys):=by
 refine Ct.dt ?_;unfold Sh.dt;have na:=ha.len;have nb:=hb.len;obtain⟨N,hN⟩:∃N,N=max xs.length ys.length:=⟨_,rfl⟩;have hlen:=jX xs (ngz ys);rw [vf] at hlen;refine j1 (λ(out:Sl) w7=>Oq (dg B32) w7 w.here.w.heap.size T.ae out (fR xs (ngz ys))∧Ext aa w.here w7) ?_ ?_
 ·refine lp2 (λM (out:Sl) (i:Int) w1=>∃j:Nat,i=j∧M=N-j∧j≤N∧Oq (dg B32) w1 w.here.w.heap.size T.ae out ((fR xs (ngz ys)).take j)∧Ext aa w.here w1) N ⟨0,rfl,om,om,Oq.nil _ _ _ _,Ext.refl _ _⟩ ?_;rintro M out i w1 ⟨j,rfl,rfl,hj,ho,e1⟩;refine ak (y:=(N:Int)) (by split<;>omega) ?_;refine ac (λh=>?_) (λh=>?_)
  ·refine cl0 (lI (i:=j) (ha.here.ext e1) om) ?_;intro r r1 w2 e2 hr;have hr:Zr w2 r r1 (xs.getD j 0):=hr;refine cl0 (lI (i:=j) (hb.here.ext (e1.trans e2)) om) ?_;intro r2 r3 w3 e3 hr2;have hr2:Zr w3 r2 r3 (ys.getD j 0):=hr2;refine cl0 (oc (hr.ext e3) hr2 (Nat.le_trans (jz hx j) dcd) (Nat.le_trans (jz hy j) dcd)) ?_;intro r4 r5 w4 e4 hr4;obtain⟨hr4,hrf⟩:=hr4;have hr4:Zr w4 r4 r5 (xs.getD j 0-ys.getD j 0):=hr4;have e24:=(e2.trans e3).trans e4;refine (ho.ext e24).push (e1.trans e24) (by simp;omega) hr4.el (λhne c hc=>⟨λhs=>?_,hr4.1.lt_blk hne c hc⟩) λs' w5 h5 e5 _=>ab om om ⟨N-(j+1),om,j+1,om,rfl,om,by rw [bC _ om,fV,o9];exact h5,e5⟩
   have h1:=hrf c hc;have h2:=(ho.lt_blk c hs).2;have h3:=(e2.trans e3).size;omega
  ·have:j=N:=om;subst this;exact⟨by rwa [List.take_of_length_le om] at ho,e1⟩
 rintro out w7 ⟨ho,e7⟩;refine c1 (iH ho.rq om) ?_;rintro s1 w8 e8 rfl;have hc:=(ho.cut (au _)).ext e8;rw [eS] at hc;exact rt1 (c:=.slice) _ (e7.trans e8) hc.rq.at
def shy(k:Nat)(zs:List Int):List Int:=if zs=[] then [] else shz k zs
theorem qC(k:Nat)(zs:List Int)(i:Nat):(shy k zs).getD i 0=(shz k zs).getD i 0:=by
 unfold shy;split
 ·rename_i h;rw [h,jI];split<;>simp
 ·rfl
theorem uM(k:Nat)(zs:List Int):(shy k zs).length≤k+zs.length:=by
 unfold shy;split
 ·simp
 ·simp [shz]
theorem mI{k:Nat}(ha:Rq (dg B32) w a zs)(hl:zs.length≤65536)(hk:k≤65536):Ct Pg F.bL [a.v,.int .i64 k] w aa [.one .slice] λ(s:Sl) w'=>Rq (dg B32) w' s (shy k zs):=by
 refine Ct.bL ?_;unfold Sh.bL;have na:=ha.len;by_cases hne:zs=[]
 ·subst hne;refine aZ (by rw [na];rfl) ?_;refine rt1 (c:=.slice) Sl.nil (Ext.refl _ _) ?_;rw [shy,if_pos rfl];exact (Oq.nil _ _ 0 T.ae).rq
 have hpos:0<zs.length:=List.length_pos_iff.2 hne;refine aw (by rw [na];simp;exact hne) ?_;refine yh (N:=k) rfl om λs w1 h1 ns e1 _=>?_
 obtain⟨ts,g1,g2,g3⟩:=ha;refine⟨w.here.w.heap.size,_,ts.flatMap iv,h1,g1.here.extN e1,e1.size,λv hv=>?_,?_,?_,λs' w' ho _ hx _=>?_⟩
 ·obtain⟨q,_,hv⟩:=List.mem_flatMap.1 hv;simp only [iv,List.mem_cons,List.not_mem_nil,or_false] at hv;rcases hv with rfl|rfl<;>rfl
 ·rw [ns,na];show k+zs.length≤9223372036854775807;omega
 ·rw [ns,na];show (k+zs.length)*32≤_;omega
 have hX:∀c,s.blk=some c→w.here.w.heap.size≤c:=λc hc=>(h1.from_ c hc).1
 have e':Ext aa w.here w':=e1.own hx hX;rw [←List.flatMap_append] at ho;refine rt1 (c:=.slice) _ e' ?_;rw [shy,if_neg hne];refine⟨_,ho.rdv,by simp [shz,g2],λi hi=>?_⟩;simp only [List.length_append,List.length_replicate] at hi;have hz:El (dg B32) w' (Sl.nil,false) 0:=⟨by show Rd w' Sl.nil (dg B32 0);rw [aG];exact Rd.nil _,rfl⟩;rw [jI];rcases Nat.lt_or_ge i k with h|h
 ·rw [if_pos h,List.getElem_append_left (by simpa using h),List.getElem_replicate];exact⟨Rd.at_ hz.1,hz.2⟩
 ·rw [if_neg om,List.getElem_append_right (by simpa using h)];simp only [List.length_replicate];have:=g3 (i-k) om;have:=El.ext (⟨this.1.here,this.2⟩:El (dg B32) w.here ts[i-k] (zs.getD (i-k) 0)) e';exact⟨Rd.at_ this.1,this.2⟩
end
section
variable {w:TW} {a:Sl} {zs:List Int}
theorem gv(ha:Rq (dg B32) w a zs)(hl:zs.length≤65536)(hz:hgt zs≤200000):Ct Pg F.ay [a.v] w aa [.one .slice] λ(s:Sl) w'=>Dr w' s (ctn zs):=by
 refine Ct.ay ?_;unfold Sh.ay;have na:=ha.len;have hd:∀j,dz (zs.getD j 0).natAbs≤6252:=λj=>Nat.le_trans (jz hz j) dcd
 refine j1 (λ(out:Sl) w3=>Dr w3 out (ctn zs)∧Ext aa w.here w3) ?_ ?_
 ·refine lp2 (λM (out:Sl) (i:Int) w1=>∃j:Nat,i=j∧M=zs.length-j∧j≤zs.length∧Dr w1 out (ctn (zs.take j))∧dz (ctn (zs.take j))≤6252∧Ext aa w.here w1) zs.length ⟨0,rfl,om,om,Dr.nil _,by simp [ctn,dz,aG],Ext.refl _ _⟩ ?_;rintro M out i w1 ⟨j,rfl,rfl,hj,ho,hdo,e1⟩;refine ac (λh=>?_) (λh=>?_)
  ·refine (ha.here.ext e1).ix (j:=j) rfl om λa1 tt hel k0 q0 q1=>⟨tt.1,k0,?_⟩
   refine c1 (qF ho hel.1 om (by have:=hd j;omega)) λs w2 e2 h2=>?_
   have hst:ctn (zs.take (j+1))=Nat.gcd (ctn (zs.take j)) (zs.getD j 0).natAbs:=by rw [bC _ om,yM]
   refine ab om om ⟨zs.length-(j+1),om,j+1,om,rfl,om,by rw [hst];exact h2,?_,e1.trans e2⟩;rw [hst];rcases Nat.eq_zero_or_pos (ctn (zs.take j)) with h|h
   ·rw [h,Nat.gcd_zero_left];exact hd j
   ·exact Nat.le_trans (jJ (Nat.gcd_le_left _ h)) hdo
  ·have:j=zs.length:=om;subst this;exact⟨by rwa [List.take_of_length_le (Nat.le_refl _)] at ho,e1⟩
 rintro out w3 ⟨ho,e3⟩;exact rt1 (c:=.slice) _ e3 (Rd.at_ ho)
set_option maxHeartbeats 1000000 in
theorem qd{cs:Sl}{cn:Bool}{z:Int}(ha:Rq (dg B32) w a zs)(hc:Zr w cs cn z)(hc0:z≠0)(hl:zs.length≤65536)(hz:hgt zs≤200000)(hcz:bl z.natAbs≤200000):Ct Pg F.cD [a.v,.agg #[cs.v,.bool cn]] w aa [.one .slice,.one .bool] λ(s:Sl)(ok:Bool) w'=>((∀i,z ∣ zs.getD i 0)→ok=true∧Rq (dg B32) w' s (zs.map λx=>x/z))∧((¬∀i,z ∣ zs.getD i 0)→ok=false):=by
 refine Ct.cD ?_;unfold Sh.cD;have na:=ha.len;have dcz:dz z.natAbs≤6252:=Nat.le_trans (iA (dN hcz)) dcd;intro w1 e1;have ha1:=ha.here.ext e1;have hc1:=hc.here.ext e1;have hm:∀j,(zs.map λx=>x/z).getD j 0=zs.getD j 0/z:=fe smp zs;refine j1 (λ(out:Sl) w6=>(∀i,z ∣ zs.getD i 0)∧Oq (dg B32) w6 w1.w.heap.size T.ae out (zs.map λx=>x/z)∧Ext aa w1 w6) ?_ ?_
 ·refine lp4 (λM (out:Sl) (i:Int) (c2:Sl) (c3:Bool) w2=>c2=cs∧c3=cn∧∃j:Nat,i=j∧M=zs.length-j∧j≤zs.length∧(∀q,q<j→z ∣ zs.getD q 0)∧Oq (dg B32) w2 w1.w.heap.size T.ae out ((zs.map λx=>x/z).take j)∧Ext aa w1 w2) zs.length ⟨rfl,rfl,0,rfl,om,om,λq h=>(by omega),Oq.nil _ _ _ _,Ext.refl _ _⟩ ?_;rintro M out i c2 c3 w2 ⟨rfl,rfl,j,rfl,rfl,hj,hdv,ho,e2⟩;refine ac (λh=>?_) (λh=>?_)
  ·have hj':j<zs.length:=om;have ed:Ext aa w2 w2.drew:=(Ext.refl _ _).drew;refine (ha1.ext (e2.trans ed)).ixh (j:=j) rfl hj' λa1 tt hel hk=>ldp (hk _ (Ext.refl _ _)).2.1 (hk _ (Ext.refl _ _)).2.2 ?_
   have key:∀{v:TW} {KK:Sl→Bool→Sl→Bool→TW→Prop},Ext aa w2.drew v→(∀r r1 r2 r3 v',Ext aa w2.drew v'→Zr v' r r1 ((zs.getD j 0).tdiv z)→Zr v' r2 r3 ((zs.getD j 0).tmod z)→(∀c,r.blk=some c→w2.w.heap.size≤c)→KK r r1 r2 r3 v')→cl Pg F.aO [.agg #[tt.1.v,.bool tt.2],.agg #[c2.v,.bool c3]] v [.agg [.slice,.bool],.agg [.slice,.bool]] KK:=by
    intro v KK ev hK;refine cl0 (sl (hel.ext ev).zr (hc1.ext ((e2.trans ed).trans ev)) hc0 (Nat.le_trans (jz hz j) dcd) om) ?_;intro r r1 r2 r3 v' e' hp;exact hK r r1 r2 r3 v' (ev.trans e') hp.1 hp.2.1 λc hc=>Nat.le_trans (ed.trans ev).size (hp.2.2 c hc)
   have tl:∀{v:TW} {r r2:Sl} {r1 r3:Bool} {FF:TW→Prop} {C0:Sl→Int→TW→Prop},Ext aa w2.drew v→Zr v r r1 ((zs.getD j 0).tdiv z)→Zr v r2 r3 ((zs.getD j 0).tmod z)→(∀c,r.blk=some c→w2.w.heap.size≤c)→(¬z ∣ zs.getD j 0→∀v',Ext aa w2.drew v'→FF v')→(z ∣ zs.getD j 0→∀s v',Ext aa w1 v'→Oq (dg B32) v' w1.w.heap.size T.ae s ((zs.map λx=>x/z).take (j+1))→C0 s ((j+1:Nat):Int) v')→
     cl Pg F.aA [.agg #[r2.v,.bool r3]] v [.one .bool] λ(ok:Bool) w8=>cond (!ok) (FF w8) (nwb w8 [r.v,.bool r1] T.ae λb w9=>apd w9 T.ae 2 32 out ⟨(some ⟨b,0,none⟩),1,1⟩ λs w10=>bnd (wi (((j:Nat):Int)+1)) λn=>C0 s n w10):=by
    intro v r r2 r1 r3 FF C0 ev hr hr2 hrf hF hC;refine c1 (no hr2) ?_;rintro ok v' e' rfl;by_cases hd:z ∣ zs.getD j 0
    ·have h0:(zs.getD j 0).tmod z=0:=qX.2 hd;refine aw (by rw [h0];rfl) ?_;rw [qZ hd] at hr;have hr:=hr.ext e';have e29:=(ed.trans ev).trans e';refine (ho.ext e29).push (e2.trans e29) (by simp;omega) hr.el (λhne c hc=>⟨λhs=>?_,hr.1.lt_blk hne c hc⟩) λs' w5 h5 e5 _=>?_
     ·have h1:=hrf c hc;have h2:=(ho.lt_blk c hs).2;omega
     refine ak (y:=((j+1:Nat):Int)) ((aI om om).trans om) (hC hd s' w5 e5 ?_);rw [bC _ (by simpa using hj'),hm];exact h5
    ·have h0:(zs.getD j 0).tmod z≠0:=λh=>hd (qX.1 h)
     exact aZ (by rw [decide_eq_false h0];rfl) (hF hd v' (ev.trans e'))
   have fl:¬z ∣ zs.getD j 0→∀v',Ext aa w2.drew v'→Rt aa [.one .slice,.one .bool] (λ(s:Sl)(ok:Bool) w'=>((∀i,z ∣ zs.getD i 0)→ok=true∧Rq (dg B32) w' s (zs.map λx=>x/z))∧((¬∀i,z ∣ zs.getD i 0)→ok=false)) w (.tuple #[.slice none 0 0,.bool false]) v':=λhd v' ev=>rt2 (c:=.slice) (d:=.bool) Sl.nil false (((e1.trans e2).trans ed).trans ev) ⟨λh=>absurd (h j) hd,λ_=>rfl⟩
   have nx:z ∣ zs.getD j 0→∀s v',Ext aa w1 v'→Oq (dg B32) v' w1.w.heap.size T.ae s ((zs.map λx=>x/z).take (j+1))→∃m',m'<zs.length-j∧c2=c2∧c3=c3∧∃j':Nat,((j+1:Nat):Int)=j'∧m'=zs.length-j'∧j'≤zs.length∧(∀q,q<j'→z ∣ zs.getD q 0)∧Oq (dg B32) v' w1.w.heap.size T.ae s ((zs.map λx=>x/z).take j')∧Ext aa w1 v':=λhd s v' ev h5=>⟨zs.length-(j+1),om,rfl,rfl,j+1,rfl,rfl,om,λq hq=>by
    by_cases h':q=j
    ·rw [h'];exact hd
    ·exact hdv q om,h5,ev⟩
   refine⟨?_,?_,?_⟩
   ·refine key (Ext.refl _ _) λr r1 r2 r3 w3 e3 hr hr2 hrf=>⟨?_,?_⟩
    ·intro w4 e4 w5 e5 w6 e6 w7 e7;have e:=((e4.trans e5).trans e6).trans e7;exact tl (e3.trans e) (hr.ext e) (hr2.ext e) hrf fl nx
    ·intro w4 e4 w5 e5 w6 e6 w7 e7;have e:=((e4.trans e5).trans e6).trans e7;exact tl (e3.trans e) (hr.ext e) (hr2.ext e) hrf fl nx
   ·intro w18 e18;refine i8 (hk _ e18).2.1 (hk _ e18).2.2 ⟨?_,?_⟩
    ·refine key e18 λr r1 r2 r3 w3 e3 hr hr2 hrf=>?_
     intro w4 e4 w5 e5 w6 e6;have e:=(e4.trans e5).trans e6;exact tl (e3.trans e) (hr.ext e) (hr2.ext e) hrf fl nx
    ·intro w26 e26;have e26:=e18.trans e26;refine i8 (hk _ e26).2.1 (hk _ e26).2.2 ?_;refine key e26 λr r1 r2 r3 w3 e3 hr hr2 hrf=>?_
     intro w4 e4 w5 e5;have e:=e4.trans e5;exact tl (e3.trans e) (hr.ext e) (hr2.ext e) hrf fl nx
   ·intro w18 e18;refine i8 (hk _ e18).2.1 (hk _ e18).2.2 ⟨?_,?_⟩
    ·refine key e18 λr r1 r2 r3 w3 e3 hr hr2 hrf=>?_
     intro w4 e4 w5 e5 w6 e6;have e:=(e4.trans e5).trans e6;exact tl (e3.trans e) (hr.ext e) (hr2.ext e) hrf fl nx
    ·intro w26 e26;have e26:=e18.trans e26;refine i8 (hk _ e26).2.1 (hk _ e26).2.2 ?_;refine key e26 λr r1 r2 r3 w3 e3 hr hr2 hrf=>?_
     intro w4 e4 w5 e5;have e:=e4.trans e5;exact tl (e3.trans e) (hr.ext e) (hr2.ext e) hrf fl nx
  ·have hje:j=zs.length:=om;subst hje;refine⟨λi=>?_,by rwa [List.take_of_length_le smp] at ho,e2⟩;rcases Nat.lt_or_ge i zs.length with hi|hi
   ·exact hdv i hi
   ·rw [gx hi];exact Int.dvd_zero _
 rintro out w6 ⟨hall,ho,e6⟩;exact rt2 (c:=.slice) (d:=.bool) _ true (e1.trans e6) ⟨λ_=>⟨rfl,ho.rq.at⟩,λh=>absurd hall h⟩
theorem me{n:Nat}(h:hgt zs≤n):bl (ctn zs)≤n:=by
 by_cases h0:∀i,zs.getD i 0=0
 ·have:ctn zs=0:=Nat.eq_zero_of_zero_dvd (mW λi=>by rw [h0 i];exact Nat.dvd_refl _);rw [this,em];omega
 ·rw [Classical.not_forall] at h0;obtain⟨i,hi⟩:=h0;exact Nat.le_trans (pi (Nat.le_of_dvd om (kz zs i))) (bF h i)
theorem iI(ha:Rq (dg B32) w a zs)(hn:Nm zs)(hl:zs.length≤65536)(hz:hgt zs≤200000):Ct Pg F.aH [a.v] w aa [.agg [.slice,.bool],.one .slice] λ(cs:Sl)(cn:Bool)(s:Sl) w'=>Zr w' cs cn (cpz zs)∧Rq (dg B32) w' s (ppz zs):=by
 refine Ct.aH ?_;unfold Sh.aH;have na:=ha.len;intro w1 e1;by_cases hne:zs=[]
 ·subst hne;refine aZ (by rw [na];rfl) ?_;intro w2 e2;exact⟨(Sl.nil,false,Sl.nil,()),rfl,e1.trans e2,⟨Dr.nil _,rfl⟩,(Oq.nil _ _ 0 T.ae).rq⟩
 have hpos:0<zs.length:=List.length_pos_iff.2 hne;refine aw (by rw [na];simp;exact hne) ?_;have ha1:=ha.here.ext e1;refine c1 (gv ha1 hl hz) λs w3 e3 h3=>?_
 refine cl0 (rj h3) ?_;intro r r1 w4 e4 hr;have hr:Zr w4 r r1 (ctn zs:Nat):=hr;intro w5 e5 w6 e6;have e46:=e5.trans e6;have e16:=(e3.trans e4).trans e46;refine ak (y:=((zs.length-1:Nat):Int)) ((aI om om).trans om) ?_;refine (ha1.ext e16).ix (j:=zs.length-1) rfl om λa1 tt hel _ _ q1=>⟨tt.2,q1,?_⟩
 have hld:tt.2=decide (ldz zs<0):=hel.2;have hcp:=pe hn hne;have hcz:cpz zs≠0:=λe=>by have:=jK zs;rw [e] at this;simp at this;omega
 refine j4 (λ(_:Sl)(_:Bool)(c:Sl)(c1:Bool) w9=>Zr w9 c c1 (cpz zs)∧Ext aa w6 w9) ?_ ?_
 ·rw [hld];refine ac (λh=>?_) (λh=>?_)
  ·refine cl0 (oe (hr.ext e46)) ?_;intro r2 r3 w7 e7 hr2;have hr2:Zr w7 r2 r3 (-((ctn zs:Nat):Int)):=hr2;intro w8 e8;exact⟨by rw [cpz,if_pos h];exact hr2.ext e8,e7.trans e8⟩
  ·exact⟨by rw [cpz,if_neg h];exact hr.ext e46,Ext.refl _ _⟩
 rintro _ _ c c1' w9 ⟨h9,e9⟩;refine c2 (qd (ha1.ext (e16.trans e9)) h9 hcz hl hz (by rw [jK];exact me hz)) ?_;rintro s1 ok w10 e10 ⟨ho,-⟩;obtain⟨-,h10⟩:=ho λi=>qQ zs i
 intro w11 e11;exact⟨(_,_,_,()),rfl,(((e1.trans e16).trans e9).trans e10).trans e11,(h9.ext (e10.trans e11)).at,(h10.ext e11).at⟩
end
section
variable {a b b':List Int} {w:TW} {s:Sl}
theorem yS(h:∀i,b.getD i 0=b'.getD i 0):Sb a b=Sb a b':=(Nm.trim _).ext (Nm.trim _) λi=>(mn a b i).trans (by rw [h,←mn])
theorem yT(h:∀i,b.getD i 0=b'.getD i 0):Ad a b=Ad a b':=(Nm.trim _).ext (Nm.trim _) λi=>(oN a b i).trans (by rw [h,←oN])
theorem vj{k:Nat}{n:Nat}(ha:hgt a≤n):hgt (shy k a)≤n:=bW λi=>by
 rw [qC];exact bF (pd ha) i
theorem xG(a b:List Int):(Ad a b).length≤max a.length b.length:=Nat.le_trans (au _) (Nat.le_of_eq (jX a b))
theorem aa1(a b:List Int):(Sb a b).length≤max a.length b.length:=Nat.le_trans (au _) (by rw [jX,vf];exact Nat.le_refl _)
theorem uU(a b:List Int):∀i,(prz a b i).1.length≤a.length+1∧(prz a b i).2.length≤a.length+b.length
 | 0=>by simp [prz]
 | i+1=>by
  obtain⟨h1,h2⟩:=uU a b i;have k1:=iN (b.getD (b.length-1) 0) (prz a b i).1;have k2:=iN (b.getD (b.length-1) 0) (prz a b i).2;have k3:=iN ((prz a b i).2.getD (a.length-1-i) 0) b;have k4:=au [(prz a b i).2.getD (a.length-1-i) 0];have k5:=xG (Sc (b.getD (b.length-1) 0) (prz a b i).1) (shz (a.length-i-b.length) (ag [(prz a b i).2.getD (a.length-1-i) 0]));have k6:=aa1 (Sc (b.getD (b.length-1) 0) (prz a b i).2) (shz (a.length-i-b.length) (Sc ((prz a b i).2.getD (a.length-1-i) 0) b));rw [shz,List.length_append,List.length_replicate] at k5 k6;simp only [List.length_singleton] at k4;unfold prz;exact⟨by simp only [shz] at *;omega,by simp only [shz] at *;omega⟩
theorem lM{b:Bool}{z:Int}(h:Zr w s b z){e:TypeId}{K:Nat→TW→Prop}(hK:∀c w',Rq (dg B32) w' ⟨some ⟨c,0,none⟩,1,1⟩ [z]→Ext aa w w'→K c w'):nwb w [s.v,.bool b] e K:=
 xX (ts:=[(s,b)]) (n:=1) rfl dcd λc w' hr e'=>hK c w' ⟨[(s,b)],hr,rfl,λi hi=>by
  match i,hi with
  | 0,_=>exact (h.ext e').el⟩ e'
theorem Rq.trim1{zs:List Int}(h:Rq (dg B32) w s zs):Rq (dg B32) w (s.cut 0 (ag zs).length 2) (ag zs):=by
 have:=h.cut (Nat.zero_le _) (au zs);rw [List.drop_zero,eS] at this;exact this
set_option maxHeartbeats 1000000 in
theorem si{a b:Sl}{X Y:List Int}{A B:Nat}(ha:Rq (dg B32) w a X)(hb:Rq (dg B32) w b Y)(hne:Y≠[])(hl:X.length≤1000)(hl2:Y.length≤1000)(hA:hgt X≤A)(hB:hgt Y≤B)(hB2:B≤200000)(hS:A+(X.length+1-Y.length)*(B+1)≤200000):Ct Pg F.cy [a.v,b.v] w aa [.one .slice,.one .slice,.one (.int .i64)] λ(q r:Sl)(k:Int) w'=>Rq (dg B32) w' q (prz X Y (X.length+1-Y.length)).1∧Rq (dg B32) w' r (jg X Y)∧k=((X.length+1-Y.length:Nat):Int):=by
 refine Ct.cy ?_;unfold Sh.cy;have na:=ha.len;have nb:=hb.len;have hpos:0<Y.length:=List.length_pos_iff.2 hne;rw [na,nb];obtain⟨K,hK⟩:∃K,X.length+1-Y.length=K:=⟨_,rfl⟩;rw [hK] at hS;refine ab om om (ab om om ?_);refine ak (y:=(K:Int)) (by split<;>omega) ?_;refine ak (y:=((Y.length-1:Nat):Int)) ((aI om om).trans om) ?_;refine hb.here.ix (j:=Y.length-1) rfl om λa1 tt hel _ q0 q1=>ldp q0 q1 ?_
 intro w1 e1 w2 e2;have e12:=e1.trans e2;have hc:Zr w2 tt.1 tt.2 (ldz Y):=hel.zr.ext e12;have ha2:=ha.here.ext e12;have hb2:=hb.here.ext e12;have hcb:bl (ldz Y).natAbs≤B:=bF hB _;have hstep:∀{j:Nat},j≤K→A+j*(B+1)≤200000:=λhj=>Nat.le_trans (Nat.add_le_add_left (Nat.mul_le_mul_right _ hj) _) hS
 refine j2 (λ(q:Sl)(r:Sl) w21=>Rq (dg B32) w21 q (prz X Y K).1∧Rq (dg B32) w21 r (prz X Y K).2∧Ext aa w2 w21) ?_ ?_
 ·refine lp5 (λM (q:Sl) (r:Sl) (i:Int) (c:Sl) (c1:Bool) w3=>c=tt.1∧c1=tt.2∧∃j:Nat,i=j∧M=K-j∧j≤K∧Rq (dg B32) w3 q (prz X Y j).1∧Rq (dg B32) w3 r (prz X Y j).2∧Ext aa w2 w3) K ⟨rfl,rfl,0,rfl,om,om,(Oq.nil _ _ 0 T.ae).rq,ha2,Ext.refl _ _⟩ ?_;rintro M q r i c c1 w3 ⟨rfl,rfl,j,rfl,rfl,hj,hq,hr,e3⟩;refine ac (λh=>?_) (λh=>?_)
  ·have hj':j+1≤K:=om;obtain⟨g1,g2⟩:=oT hA hB j;obtain⟨l1,l2⟩:=uU X Y j;have hs0:=hstep hj;have hs1:=hstep hj';rw [Nat.add_mul,Nat.one_mul] at hs1;obtain⟨t,ht⟩:∃t,(prz X Y j).2.getD (X.length-1-j) 0=t:=⟨_,rfl⟩;have htb:bl t.natAbs≤A+j*(B+1):=by rw [←ht];exact bF g2 _
   have hp1:(prz X Y (j+1)).1=Ad (Sc (ldz Y) (prz X Y j).1) (shz (X.length-j-Y.length) (ag [t])):=by rw [prz,ht];rfl
   have hp2:(prz X Y (j+1)).2=Sb (Sc (ldz Y) (prz X Y j).2) (shz (X.length-j-Y.length) (Sc t Y)):=by rw [prz,ht];rfl
   generalize (prz X Y j).1=Q at*;generalize (prz X Y j).2=R at*;refine ab om om ?_;refine ak (y:=((X.length-1-j:Nat):Int)) ((aI om om).trans om) ?_;refine cl0 (lI (i:=X.length-1-j) hr om) ?_;intro r1 r2 w4 e4 ht4;have ht4:Zr w4 r1 r2 t:=ht▸ht4
   intro w5 e5 w6 e6;have e46:=(e4.trans (e5.trans e6)).drew;refine ab om om ?_;refine ak (y:=((X.length-j-Y.length:Nat):Int)) ((aI om om).trans om) ?_;have ht6:Zr w6.drew r1 r2 t:=ht4.ext (e5.trans e6).drew;have e36:=e3.trans e46;refine c1 (il (hr.ext e46) (hc.ext e36) om om om) λs w7 e7 h7=>?_
   refine c1 (il (hb2.ext (e36.trans e7)) (ht6.ext e7) om om om) λs1 w8 e8 h8=>?_
   have lS1:=iN t Y;refine c1 (mI (k:=X.length-j-Y.length) h8 om om) λs2 w9 e9 h9=>?_
   have gS:hgt (Sc (ldz Y) R)≤A+j*(B+1)+B:=iK g2 hcb;have gT:hgt (Sc t Y)≤B+(A+j*(B+1)):=iK hB htb;have lS:=iN (ldz Y) R;have lT:=uM (X.length-j-Y.length) (Sc t Y);refine c1 (wJ (h7.ext (e8.trans e9)) h9 om om om (Nat.le_trans (vj gT) om)) λs3 w10 e10 h10=>?_
   rw [yS (qC _ _),←hp2] at h10;refine ab om om ?_;refine ak (y:=((X.length-j-Y.length:Nat):Int)) ((aI om om).trans om) ?_;have e610:=((e7.trans e8).trans e9).trans (e10.drew);have h10d:=h10.ext (Ext.refl _ _).drew;have ht10:=ht6.ext e610;have hq10:=hq.ext (e46.trans e610);have hc10:=hc.ext (e36.trans e610);have gQ:hgt (Sc (ldz Y) Q)≤A+j*(B+1)+B:=iK g1 hcb
   have g1t:hgt (ag [t])≤A+j*(B+1):=bW λi=>by
    rw [oo];split
    ·exact htb
    ·simp [em]
   have lQ:=iN (ldz Y) Q;have l1t:=au [t];simp only [List.length_singleton] at l1t;have lT2:=uM (X.length-j-Y.length) (ag [t])
   have tl:∀{v:TW} {s4 s6:Sl} {C0:Sl→Int→TW→Prop},Ext aa w10.drew v→Rq (dg B32) v s4 (Sc (ldz Y) Q)→Rq (dg B32) v s6 (shy (X.length-j-Y.length) (ag [t]))→(∀s7 w',Ext aa w2 w'→Rq (dg B32) w' s7 (prz X Y (j+1)).1→Rq (dg B32) w' s3 (prz X Y (j+1)).2→C0 s7 ((j+1:Nat):Int) w')→cl Pg F.aE [s4.v,s6.v] v [.one .slice] λ(s7:Sl) w15=>bnd (wi (((j:Nat):Int)+1)) λn10=>C0 s7 n10 w15:=by
    intro v s4 s6 C0 ev h4 h6 hC;refine c1 (rh h4 h6 om om om (Nat.le_trans (vj g1t) om)) λs7 w15 e15 h15=>?_
    rw [yT (qC _ _),←hp1] at h15;exact ak (y:=((j+1:Nat):Int)) ((aI om om).trans om) (hC s7 w15 (((e36.trans e610).trans ev).trans e15) h15 (h10d.ext (ev.trans e15)))
   have fin:∀s7 w',Ext aa w2 w'→Rq (dg B32) w' s7 (prz X Y (j+1)).1→Rq (dg B32) w' s3 (prz X Y (j+1)).2→∃m',m'<K-j∧tt.1=tt.1∧tt.2=tt.2∧∃j':Nat,((j+1:Nat):Int)=j'∧m'=K-j'∧j'≤K∧Rq (dg B32) w' s7 (prz X Y j').1∧Rq (dg B32) w' s3 (prz X Y j').2∧Ext aa w2 w':=λs7 w' e k1 k2=>⟨K-(j+1),om,rfl,rfl,j+1,rfl,rfl,hj',k1,k2,e⟩
   refine⟨?_,?_⟩
   ·refine c1 (il hq10 hc10 om om om) λs4 w11 e11 h11=>?_
    refine lM (ht10.ext e11) λb1 w12 h12 e12=>?_
    refine c1 (iH (a:=⟨some ⟨b1,0,none⟩,1,1⟩) h12 smp) ?_;rintro _ w13 e13 rfl;refine c1 (mI (k:=X.length-j-Y.length) (h12.trim1.ext e13) om om) λs6 w14 e14 h14=>?_
    have e1114:=(e12.trans e13).trans e14;exact tl (e11.trans e1114) (h11.ext e1114) h14 fin
   ·refine lM ht10 λb1 w11 h11 e11=>?_
    refine c1 (il (hq10.ext e11) (hc10.ext e11) om om om) λs4 w12 e12 h12=>?_
    refine c1 (iH (a:=⟨some ⟨b1,0,none⟩,1,1⟩) (h11.ext e12) smp) ?_;rintro _ w13 e13 rfl;refine c1 (mI (k:=X.length-j-Y.length) (h11.trim1.ext (e12.trans e13)) om om) λs6 w14 e14 h14=>?_
    have e1314:=e13.trans e14;exact tl ((e11.trans e12).trans e1314) (h12.ext e1314) h14 fin
  ·have:j=K:=om;subst this;exact⟨hq,hr,e3⟩
 rintro q r w21 ⟨h3,h4,e21⟩;rw [hK];exact rt3 (c:=.slice) (d:=.slice) (e:=.int .i64) q r (K:Int) (e12.trans e21) ⟨h3.at,by unfold jg;rw [hK];exact h4.at,rfl⟩
end
theorem yO{f:Nat}{P Q:List Int}(hP:Prm P)(h:P.length<Q.length):cmf (f+1) P Q=cmf f Q P:=by
 have hQ:Q≠[]:=λe=>by rw [e] at h;simp at h
 rw [pO hQ,vJ h,hP.pp]
set_option maxHeartbeats 1000000 in
theorem sk{w:TW}{a b:Sl}{X Y:List Int}(ha:Rq (dg B32) w a X)(hb:Rq (dg B32) w b Y)(hX:Nm X)(hY:Nm Y)(hl:X.length≤6)(hl2:Y.length≤6)(hA:hgt X≤194)(hB:hgt Y≤194):Ct Pg F.cz [a.v,b.v] w aa [.one .slice] λ(s:Sl) w'=>Rq (dg B32) w' s (Sc (Nat.gcd (ctn X) (ctn Y):Nat) (cmf Y.length (ppz X) (ppz Y)))∧hgt (cmf Y.length (ppz X) (ppz Y))≤100000∧(cmf Y.length (ppz X) (ppz Y)).length≤6:=by
 refine Ct.cz ?_;unfold Sh.cz;have dzc:∀L:List Int,hgt L≤194→dz (ctn L)≤1048576:=λL hL=>Nat.le_trans (iA (dN (me hL))) dcd
 refine c1 (gv ha.here om om) λs w1 e1 h1=>?_
 refine c1 (gv (hb.here.ext e1) om om) λs1 w2 e2 h2=>?_
 refine c1 (qF (h1.ext e2) h2 (dzc X hA) (dzc Y hB)) λs2 w3 e3 h3=>?_
 have e13:=(e1.trans e2).trans e3;refine cl0 (iI (ha.here.ext e13) hX om om) ?_;intro r r1 s3 w4 e4 hp;have h4:Rq (dg B32) w4 s3 (ppz X):=hp.2;refine cl0 (iI (hb.here.ext (e13.trans e4)) hY om om) ?_;intro r2 r3 s4 w5 e5 hp2;have h5:Rq (dg B32) w5 s4 (ppz Y):=hp2.2;have e35:=e4.trans e5;refine j1 (λ(a3:Sl) w10=>Rq (dg B32) w10 a3 (cmf Y.length (ppz X) (ppz Y))∧hgt (cmf Y.length (ppz X) (ppz Y))≤100000∧(cmf Y.length (ppz X) (ppz Y)).length≤6∧Prm (cmf Y.length (ppz X) (ppz Y))∧Nm (cmf Y.length (ppz X) (ppz Y))∧Ext aa w5 w10) ?_ ?_
 ·refine lp2 (λM (a1:Sl) (b1:Sl) w6=>∃(f H:Nat) (P Q:List Int),M=Q.length∧Q.length≤f∧Q.length≤6∧P.length≤6∧Rq (dg B32) w6 a1 P∧Rq (dg B32) w6 b1 Q∧Nm P∧Nm Q∧Prm P∧Prm Q∧hgt P≤H∧hgt Q≤H∧Gm f P.length Q.length H≤100000∧cmf f P Q=cmf Y.length (ppz X) (ppz Y)∧Ext aa w5 w6) Y.length ⟨Y.length,194,ppz X,ppz Y,(ek Y).symm,by rw [ek];omega,by rw [ek];omega,by rw [ek];omega,h4.ext e5,h5,mS hX,mS hY,qH hX,qH hY,lW hA,lW hB,by rw [ek,ek];exact xk _ om _ om,rfl,Ext.refl _ _⟩ ?_;rintro M a1 b1 w6 ⟨f,H,P,Q,rfl,hf,lQ,lP,hP,hQ,nP,nQ,pP,pQ,gP,gQ,hG,hcm,e6⟩;have n1:=hP.len;have n2:=hQ.len;refine ac (λh=>?_) (λh=>?_)
  ·have hQp:0<Q.length:=om;have hQne:Q≠[]:=List.length_pos_iff.1 hQp;obtain⟨f,rfl⟩:∃f',f=f'+1:=⟨f-1,om⟩;have hG0:=Gm.le (Gm.step hG (r:=0) hQp);have hH:H≤100000:=Gm.le hG;rw [n1,n2];refine j2 (λ(a2:Sl)(b2:Sl) w9=>∃(H':Nat) (Q':List Int),Q'.length<Q.length∧Rq (dg B32) w9 a2 Q∧Rq (dg B32) w9 b2 Q'∧Nm Q'∧Prm Q'∧hgt Q≤H'∧hgt Q'≤H'∧Gm f Q.length Q'.length H'≤100000∧cmf f Q Q'=cmf Y.length (ppz X) (ppz Y)∧Ext aa w6 w9) ?_ ?_
   ·refine ac (λhs=>?_) (λhs=>?_)
    ·have hs':P.length<Q.length:=om;refine⟨H,P,hs',hQ,hP,nP,pP,gQ,gP,?_,by rw [←hcm,yO pP hs'],Ext.refl _ _⟩;have:=Gm.step hG hs';rwa [show P.length+1-Q.length=0 by omega,Nat.zero_mul,Nat.add_zero] at this
    ·refine c3 (si hP hQ hQne om om gP gQ om om) ?_;rintro q s6 k w7 e7 ⟨-,h7,-⟩;have gR:hgt (jg P Q)≤H+(P.length+1-Q.length)*(H+1):=(oT gP gQ _).2;have lR:=sI (b:=Q) nP hQne;have nR:=uV (b:=Q) nP;refine cl0 (iI h7 nR om om) ?_;intro r5 r6 s7 w8 e8 hp3;have h8:Rq (dg B32) w8 s7 (ppz (jg P Q)):=hp3.2;exact⟨_,ppz (jg P Q),by rw [ek];exact lR,hQ.ext (e7.trans e8),h8,mS nR,qH nR,Nat.le_trans gQ (Nat.le_add_right _ _),lW gR,by rw [ek];exact Gm.step hG lR,by rw [←hcm,pO hQne],e7.trans e8⟩
   rintro a2 b2 w9 ⟨H',Q',hlt,k1,k2,k3,k4,k5,k6,k7,k8,e9⟩;exact⟨_,hlt,f,H',Q,Q',rfl,om,om,lQ,k1,k2,nQ,k3,pQ,k4,k5,k6,k7,k8,e6.trans e9⟩
  ·have:Q=[]:=List.length_eq_zero_iff.1 om;subst this;rw [tT] at hcm;rw [←hcm];exact⟨hP,Nat.le_trans gP (Gm.le hG),lP,pP,nP,e6⟩
 rintro a3 w10 ⟨h10,g10,l10,p10,n10,e10⟩;obtain⟨C,hC⟩:∃C,cmf Y.length (ppz X) (ppz Y)=C:=⟨_,rfl⟩;rw [hC] at h10 g10 l10 p10 n10 ⊢;refine cl0 (iI h10 n10 om om) ?_;intro r5 r6 s8 w11 e11 hp3;have h11:Rq (dg B32) w11 s8 (ppz C):=hp3.2;rw [p10.pp] at h11;refine cl0 (rj (h3.ext ((e35.trans e10).trans e11))) ?_;intro r9 r10 w12 e12 hr;have hr:Zr w12 r9 r10 (Nat.gcd (ctn X) (ctn Y):Nat):=hr
 have bg:bl (Nat.gcd (ctn X) (ctn Y))≤194:=by
  rcases Nat.eq_zero_or_pos (ctn X) with h|h
  ·rw [h,Nat.gcd_zero_left];exact me hB
  ·exact Nat.le_trans (pi (Nat.gcd_le_left _ h)) (me hA)
 refine c1 (il (h11.ext e12) hr om om (by rw [Int.natAbs_natCast];omega)) λs9 w13 e13' h13=>?_
 exact rt1 (c:=.slice) _ (((((e13.trans e35).trans e10).trans e11).trans e12).trans e13') ⟨h13.at,g10,l10⟩
end Go.Proofs.YtpbimnlggalnfaaGreatDoor.Zg
