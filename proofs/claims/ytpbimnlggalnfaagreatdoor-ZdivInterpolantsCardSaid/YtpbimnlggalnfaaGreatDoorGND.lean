/- A part of the proofs of this seat's laws. -/
import Derived.Test.YtpbimnlggalnfaaGreatDoorGNC
import Derived.Test.YtpbimnlggalnfaaGreatDoorGP6
set_option linter.unusedVariables false
set_option linter.unusedSimpArgs false
set_option linter.unnecessarySimpa false
namespace Go.Proofs.YtpbimnlggalnfaaGreatDoor.Zg
open Go.RowKit
section
variable {w:TW} {a:Sl}
theorem polyz_Deg{zs:List Int}(ha:Ri w a zs)(hn:zs.length≤1099511627776):Ct Pg F.io [a.v] w aa [.one (.int .i64)] λ(r:Int) _=>r=((ag zs).length:Int)-1:=by
 refine Ct.io ?_;unfold Sh.io;refine c1 (polyz_trim ha.here hn) ?_;rintro _ w1 e1 rfl;have:=au zs;have hc:(a.cut 0 (ag zs).length 2).n=(ag zs).length:=by simp [Sl.cut]
 rw [hc];exact ab om om (rt1 (c:=.int .i64) _ e1 rfl)
theorem Sht.dz{a b:List Int}(h:Sht a b){i:Nat}(hi:i<a.length)(j k:Nat):Go.Proofs.YtpbimnlggalnfaaGreatDoor.Zg.dz (Go.Proofs.YtpbimnlggalnfaaGreatDoor.Zg.mid a b i j k).natAbs≤274877906944:=Nat.le_trans (iA (h.mid hi j k)) dcd
theorem ob{b:Sl}{xs ys:List Int}(ha:Rq (dg B32) w a xs)(hb:Rq (dg B32) w b ys)(hs:Sht xs ys):
  Ct Pg F.aJ [a.v,b.v] w aa [.one .slice] λ(s:Sl) w'=>Rq (dg B32) w' s (pmt xs ys):=by
 refine Ct.aJ ?_;unfold Sh.aJ;obtain⟨l1,l2,-⟩:=id hs;have n1:=ha.len;have n2:=hb.len;have ha:=ha.here;have hb:=hb.here;refine sQ n1 n2 ?_;refine ac (λhz0=>?_) (λhz0=>?_)
 ·refine rt1 (c:=.slice) Sl.nil (Ext.refl _ _) ?_;rw [nz (a:=xs) (b:=ys) (by have:=au xs;have:=au ys;omega)];exact (Oq.nil _ _ 0 T.ae).rq
 refine ab om om (ab om om ?_);obtain⟨N,hN⟩:∃N,N=xs.length+ys.length-1:=⟨_,rfl⟩;refine tg (D:=dg B32) (aG _) (N:=N) om om λs w2 h2 e2=>?_
 have hdz:∀{i j},dz (xs.getD i 0).natAbs≤4194304∧dz (ys.getD j 0).natAbs≤4194304:=fun {i j}=>⟨Nat.le_trans (iA (hs.one i).1) dcd,Nat.le_trans (iA (hs.one j).2) dcd⟩
 refine j0 (λw10=>(∃l,Oq (dg B32) w10 w.here.w.heap.size T.ae s l∧l.length=N∧∀k,l.getD k 0=(pm xs ys).getD k 0)∧Ext aa w.here w10) ?_ ?_
 ·refine lp1 (λM (x:Int) w3=>∃i l,x=(i:Nat)∧M=xs.length-i∧i≤xs.length∧Oq (dg B32) w3 w.here.w.heap.size T.ae s l∧l.length=N∧(∀k,l.getD k 0=czi xs ys i k)∧Ext aa w.here w3) xs.length ⟨0,_,rfl,om,om,h2,smp,λk=>by rw [rU,tO],e2⟩ ?_;rintro M x w3 ⟨i,l,rfl,rfl,hi,ho,hl,gl,e3⟩;refine ac (λh=>?_) (λh=>?_)
  ·have hi':i<xs.length:=om;refine j0 (λw9=>(∃l,Oq (dg B32) w9 w.here.w.heap.size T.ae s l∧l.length=N∧∀k,l.getD k 0=czi xs ys (i+1) k)∧Ext aa w.here w9) ?_ ?_
   ·refine lp1 (λM (x:Int) w4=>∃j l,x=(j:Nat)∧M=ys.length-j∧j≤ys.length∧Oq (dg B32) w4 w.here.w.heap.size T.ae s l∧l.length=N∧(∀k,l.getD k 0=mid xs ys i j k)∧Ext aa w.here w4) ys.length ⟨0,l,rfl,om,om,ho,hl,λk=>by rw [gl k,th],e3⟩ ?_;rintro M x w4 ⟨j,l,rfl,rfl,hj,ho,hl,gl,e4⟩;refine ac (λh=>?_) (λh=>?_)
    ·have hj':j<ys.length:=om;have ed:Ext aa w4 w4.drew:=(Ext.refl _ _).drew;refine ak (y:=((i+j:Nat):Int)) ((aI om om).trans om) ?_;refine ak (y:=((i+j:Nat):Int)) ((aI om om).trans om) ?_;refine (ho.ext ed).rq.ixh (j:=i+j) rfl om λa1 t1' hel hk1=>ldp (hk1 _ (Ext.refl _ _)).2.1 (hk1 _ (Ext.refl _ _)).2.2 ?_
     refine (ha.ext (e4.trans ed)).ix (j:=i) rfl hi' λa2 t2' hel2 _ q0 q1=>ldp q0 q1 ?_
     refine (hb.ext (e4.trans ed)).ix (j:=j) rfl hj' λa3 t3' hel3 _ r0 r1=>ldp r0 r1 ?_
     refine cl0 (kG hel2.zr hel3.zr (by have:=(@hdz i j).1;omega) (by have:=(@hdz i j).2;omega)) ?_;intro r r1 w5 e5 hr;have hr:Zr w5 r r1 (xs.getD i 0*ys.getD j 0):=hr.1;refine i8 (hk1 _ e5).2.1 (hk1 _ e5).2.2 ?_;refine cl0 (mr (hel.ext e5).zr hr (by rw [gl];exact hs.dz hi' j (i+j)) ?_) ?_
     ·rw [Int.natAbs_mul];have:=aaR (xs.getD i 0).natAbs (ys.getD j 0).natAbs;have:=(@hdz i j).1;have:=(@hdz i j).2;omega
     intro r2 r3 w6 e6 hr2;have hr2:Zr w6 r2 r3 (l.getD (i+j) 0+xs.getD i 0*ys.getD j 0)∧∀c,r2.blk=some c→w5.w.heap.size≤c:=hr2;have e46:=(ed.trans e5).trans e6;have ho6:=ho.ext e46;refine ho6.set (z:=l.getD (i+j) 0+xs.getD i 0*ys.getD j 0) rfl om (Zr.el hr2.1) (λhne c hc=>⟨λhs'=>?_,Rd.lt_blk hr2.1.1 hne c hc⟩) λw8 h8 e8=>?_
     ·have:=hr2.2 c hc;have:=(ho.lt_blk c hs').2;have:=(ed.trans e5).size;omega
     refine ab om om ⟨ys.length-(j+1),om,j+1,_,om,rfl,om,h8,by simp [hl],λk=>?_,(e4.trans e46).own e8 λc hc=>(ho6.lt_blk c hc).1⟩;rw [ku om,ti,gl,gl];by_cases h':k=i+j
     ·subst h';rfl
     ·rw [if_neg h',if_neg h']
    ·exact⟨⟨l,ho,hl,λk=>by rw [gl k,vg xs ys om]⟩,e4⟩
   rintro w9 ⟨⟨l,ho,hl,gl⟩,e9⟩;exact ab om om ⟨xs.length-(i+1),om,i+1,l,om,rfl,om,ho,hl,gl,e9⟩
  ·exact⟨⟨l,ho,hl,λk=>by rw [gl k,show i=xs.length by omega,vr]⟩,e3⟩
 rintro w10 ⟨⟨l,ho,hl,gl⟩,e10⟩;refine c1 (iH ho.rq om) ?_;rintro _ w11 e11 rfl;have hc:=(ho.cut (au l)).ext e11;rw [eS] at hc;refine rt1 (c:=.slice) _ (e10.trans e11) ?_;rw [←uY (a:=xs) (b:=ys) (l:=l) gl];exact hc.rq.at
theorem aaO{n:Nat}:∀{l:List Int},(∀i,bl (l.getD i 0).natAbs≤n)→hgt l≤n:=by
 have key:∀(l:List Int) (m:Nat),m≤n→(∀i,bl (l.getD i 0).natAbs≤n)→(l.map λz=>bl z.natAbs).foldl max m≤n:=by
  intro l;induction l with
  | nil=>intro m hm _;exact hm
  | cons z l ih=>
   intro m hm h;rw [List.map_cons,List.foldl_cons];have h0:=h 0;simp only [List.getD_cons_zero] at h0;exact ih _ om λi=>by simpa using h (i+1)
 intro l h;exact key l 0 om h
theorem uX(a b:List Int):hgt (pmt a b)≤hgt a+hgt b+bl (min a.length b.length):=aaO λi=>by rw [jr];exact sP a b i
end
end Go.Proofs.YtpbimnlggalnfaaGreatDoor.Zg
