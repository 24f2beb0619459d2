/- A part of the proofs of this seat's laws. -/
import Derived.Test.YtpbimnlggalnfaaGreatDoorGNC
import Derived.Test.YtpbimnlggalnfaaGreatDoorGP4
import Derived.Test.YtpbimnlggalnfaaGreatDoorGNA
import Derived.Test.YtpbimnlggalnfaaGreatDoorGP5
import Derived.Test.YtpbimnlggalnfaaGreatDoorGHE
set_option linter.unusedVariables false
set_option linter.unusedSimpArgs false
set_option linter.unnecessarySimpa false
namespace Go.Proofs.YtpbimnlggalnfaaGreatDoor.Zg
open Go.RowKit
section
variable {w:TW} {a:Sl} {zs:List Int} {p:Nat}
theorem polyz_Deg(ha:Ri w a zs)(hn:zs.length≤1099511627776):Ct Pg F.jl [a.v] w aa [.one (.int .i64)] λ(r:Int) _=>r=((ae zs).length:Int)-1:=by
 refine Ct.jl ?_;unfold Sh.jl;refine c1 (polyz_trim ha.here hn) ?_;rintro _ w1 e1 rfl;have:=ao zs;have hc:(a.cut 0 (ae zs).length 2).n=(ae zs).length:=by simp [Sl.cut]
 rw [hc];exact ab om om (rt1 (c:=.int .i64) _ e1 rfl)
theorem polyz_residue{n:Bool}{z:Int}(ha:Iz w a n z)(hz:sz z.natAbs≤1099511627776)(h2:2≤p)(hp:p<4611686018427387904):Ct Pg F.gp [.agg #[a.v,.bool n],.int .u64 p] w aa [.one (.int .u64)] λ(r:Int) _=>r=((z%(p:Int)).toNat:Nat):=by
 refine Ct.gp ?_;unfold Sh.gp;intro w1 e1;refine c3 (limb_DivWord (ha.abs.here.ext e1) (by rw [w64];omega) hz) ?_;rintro s r er w2 e2 ⟨-,rfl,-⟩;rw [if_neg om];have hn:=ha.neg_;have hlt:=Nat.mod_lt z.natAbs (show 0<p by omega);have e:=e1.trans e2;refine j1 (λ(x:Bool) w3=>x=decide (n=true∧0<z.natAbs%p)∧w3=w2) ?_ ?_
 ·refine aG (λh=>⟨?_,rfl⟩) (λh=>⟨?_,rfl⟩)
  ·subst h;rw [decide_eq_decide];simp;omega
  ·subst h;simp
 rintro x w3 ⟨rfl,rfl⟩;refine j1 (λ(r:Int) w4=>r=((z%(p:Int)).toNat:Nat)∧w4=w3) ?_ ?_
 ·refine ac (λh=>?_) (λh=>?_)
  ·refine fA (a:=p) (b:=z.natAbs%p) rfl rfl om (by rw [w64];omega) ⟨?_,rfl⟩;rw [if_pos h.1] at hn;rw [hn,qz om,if_neg om,←hn]
  ·refine⟨?_,rfl⟩;cases n with
   | true=>
    rw [if_pos rfl] at hn
    have h0:z.natAbs%p=0:=by
     rcases Nat.eq_zero_or_pos (z.natAbs%p) with h'|h'
     ·exact h'
     ·exact absurd ⟨rfl,h'⟩ h
    rw [h0,hn,qz om,if_pos h0]
   | false=>
    rw [if_neg smp] at hn;rw [hn,←Int.natCast_emod,Int.toNat_natCast,←hn]
 rintro r w4 ⟨rfl,rfl⟩;exact rt1 (c:=.int .u64) _ e rfl
theorem polyz_Reduce(ha:Ri w a zs)(hn:zs.length≤1048576)(hz:∀i,sz (zs.getD i 0).natAbs≤1099511627776)(h2:2≤p)(hp:p<4611686018427387904):Ct Pg F.fX [a.v,.int .u64 p] w aa [.one .slice,.one (.int .i64)] λ(s:Sl)(_:Int) w'=>Op w' w.w.heap.size s zs.length (λi=>(zs.getD i 0%(p:Int)).toNat):=by
 refine Ct.fX ?_;unfold Sh.fX;have na:=ha.len;refine j1 (λ(x:Bool) w1=>x=false∧w1=w.here) ?_ ?_
 ·refine ap (by simp;omega) ⟨?_,rfl⟩;rw [decide_eq_false_iff_not];omega
 rintro x w1 ⟨rfl,rfl⟩;refine ap rfl ?_;refine bW (N:=zs.length) om om λs w2 h2' n2 e2 b2=>?_
 refine j0 (λw5=>(∃l,Ow w5 w.w.heap.size s l∧l.length=zs.length∧∀i,l.getD i 0=(zs.getD i 0%(p:Int)).toNat)∧Ext aa w.here w5) ?_ ?_
 ·refine lp1 (λm (x:Int) w2=>∃j l,x=(j:Nat)∧m=zs.length-j∧j≤zs.length∧Ow w2 w.w.heap.size s l∧l.length=zs.length∧(∀i,i<j→l.getD i 0=(zs.getD i 0%(p:Int)).toNat)∧Ext aa w.here w2) zs.length ⟨0,_,rfl,om,om,h2',smp,λi h=>(by omega),e2⟩ ?_;rintro m x w3 ⟨j,l,rfl,rfl,hj,ho,hl,gl,e3⟩;refine ac (λh=>?_) (λh=>?_)
  ·refine (ha.here.ext e3).ix (j:=j) rfl om λa1 tt hzt _ q0 q1=>ldp q0 q1 ?_
   intro w4 e4 w5 e5;have e45:=e4.trans e5;refine c1 (polyz_residue (hzt.ext e45) (hz j) h2 hp) ?_;rintro r w6 e6 rfl;have e36:=e45.trans e6
   have hlt:(zs.getD j 0%(p:Int)).toNat<W64:=by
    have:=Int.emod_lt_of_pos (zs.getD j 0) (show (0:Int)<p by omega);have:=Int.emod_nonneg (zs.getD j 0) (show (p:Int)≠0 by omega);rw [w64];omega
   refine (ho.ext e36).store (j:=j) rfl om hlt rfl λw7 h7 e7=>?_
   refine ab om om ⟨zs.length-(j+1),om,j+1,_,om,rfl,om,h7,by simp [hl],λi hi=>?_,(e3.trans e36).own e7 λc hc=>(ho.from_ c hc).1⟩;rw [i5 om];by_cases h':i=j
   ·rw [if_pos h',h']
   ·rw [if_neg h'];exact gl i om
  ·refine⟨⟨l,ho,hl,λi=>?_⟩,e3⟩;rcases Nat.lt_or_ge i j with hi|hi
   ·exact gl i hi
   ·rw [eW om,fU om];simp
 rintro w5 ⟨⟨l,ho,hl,gl⟩,e5⟩;refine tF ho.rd λk h1 h2=>?_
 exact rt2 (c:=.slice) (d:=.int .i64) _ 0 e5 ⟨_,(ho.cut0 h1).at,by rw [List.length_take];omega,λi=>by rw [h2 i,gl i]⟩
theorem Sht.dz{a b:List Int}(h:Sht a b){i:Nat}(hi:i<a.length)(j k:Nat):Go.Proofs.YtpbimnlggalnfaaGreatDoor.Zg.dz (Go.Proofs.YtpbimnlggalnfaaGreatDoor.Zg.mid a b i j k).natAbs≤274877906944:=Nat.le_trans (py (h.mid hi j k)) dcd
theorem tJ{b:Sl}{xs ys:List Int}(ha:Rq (dg B32) w a xs)(hb:Rq (dg B32) w b ys)(hs:Sht xs ys):
  Ct Pg F.cD [a.v,b.v] w aa [.one .slice] λ(s:Sl) w'=>Rq (dg B32) w' s (pmt xs ys):=by
 refine Ct.cD ?_;unfold Sh.cD;obtain⟨l1,l2,-⟩:=id hs;have n1:=ha.len;have n2:=hb.len;have ha:=ha.here;have hb:=hb.here;refine kT n1 n2 ?_;refine ac (λhz0=>?_) (λhz0=>?_)
 ·refine rt1 (c:=.slice) Sl.nil (Ext.refl _ _) ?_;rw [ph (a:=xs) (b:=ys) (by have:=ao xs;have:=ao ys;omega)];exact (Oq.nil _ _ 0 T.cd).rq
 refine ab om om (ab om om ?_);obtain⟨N,hN⟩:∃N,N=xs.length+ys.length-1:=⟨_,rfl⟩;refine rk (D:=dg B32) (az _) (N:=N) om om λs w2 h2 e2=>?_
 have hdz:∀{i j},dz (xs.getD i 0).natAbs≤4194304∧dz (ys.getD j 0).natAbs≤4194304:=fun {i j}=>⟨Nat.le_trans (py (hs.one i).1) dcd,Nat.le_trans (py (hs.one j).2) dcd⟩
 refine j0 (λw10=>(∃l,Oq (dg B32) w10 w.here.w.heap.size T.cd s l∧l.length=N∧∀k,l.getD k 0=(pm xs ys).getD k 0)∧Ext aa w.here w10) ?_ ?_
 ·refine lp1 (λM (x:Int) w3=>∃i l,x=(i:Nat)∧M=xs.length-i∧i≤xs.length∧Oq (dg B32) w3 w.here.w.heap.size T.cd s l∧l.length=N∧(∀k,l.getD k 0=czi xs ys i k)∧Ext aa w.here w3) xs.length ⟨0,_,rfl,om,om,h2,smp,λk=>by rw [uH,vQ],e2⟩ ?_;rintro M x w3 ⟨i,l,rfl,rfl,hi,ho,hl,gl,e3⟩;refine ac (λh=>?_) (λh=>?_)
  ·have hi':i<xs.length:=om;refine j0 (λw9=>(∃l,Oq (dg B32) w9 w.here.w.heap.size T.cd s l∧l.length=N∧∀k,l.getD k 0=czi xs ys (i+1) k)∧Ext aa w.here w9) ?_ ?_
   ·refine lp1 (λM (x:Int) w4=>∃j l,x=(j:Nat)∧M=ys.length-j∧j≤ys.length∧Oq (dg B32) w4 w.here.w.heap.size T.cd s l∧l.length=N∧(∀k,l.getD k 0=mid xs ys i j k)∧Ext aa w.here w4) ys.length ⟨0,l,rfl,om,om,ho,hl,λk=>by rw [gl k,vw],e3⟩ ?_;rintro M x w4 ⟨j,l,rfl,rfl,hj,ho,hl,gl,e4⟩;refine ac (λh=>?_) (λh=>?_)
    ·have hj':j<ys.length:=om;have ed:Ext aa w4 w4.drew:=(Ext.refl _ _).drew;refine ag (y:=((i+j:Nat):Int)) ((ar om om).trans om) ?_;refine ag (y:=((i+j:Nat):Int)) ((ar om om).trans om) ?_;refine (ho.ext ed).rq.ixh (j:=i+j) rfl om λa1 t1' hel hk1=>ldp (hk1 _ (Ext.refl _ _)).2.1 (hk1 _ (Ext.refl _ _)).2.2 ?_
     refine (ha.ext (e4.trans ed)).ix (j:=i) rfl hi' λa2 t2' hel2 _ q0 q1=>ldp q0 q1 ?_
     refine (hb.ext (e4.trans ed)).ix (j:=j) rfl hj' λa3 t3' hel3 _ r0 r1=>ldp r0 r1 ?_
     refine cl0 (zn hel2.zr hel3.zr (by have:=(@hdz i j).1;omega) (by have:=(@hdz i j).2;omega)) ?_;intro r r1 w5 e5 hr;have hr:Zr w5 r r1 (xs.getD i 0*ys.getD j 0):=hr.1;refine mJ (hk1 _ e5).2.1 (hk1 _ e5).2.2 ?_;refine cl0 (zo (hel.ext e5).zr hr (by rw [gl];exact hs.dz hi' j (i+j)) ?_) ?_
     ·rw [Int.natAbs_mul];have:=adA (xs.getD i 0).natAbs (ys.getD j 0).natAbs;have:=(@hdz i j).1;have:=(@hdz i j).2;omega
     intro r2 r3 w6 e6 hr2;have hr2:Zr w6 r2 r3 (l.getD (i+j) 0+xs.getD i 0*ys.getD j 0)∧∀c,r2.blk=some c→w5.w.heap.size≤c:=hr2;have e46:=(ed.trans e5).trans e6;have ho6:=ho.ext e46;refine ho6.set (z:=l.getD (i+j) 0+xs.getD i 0*ys.getD j 0) rfl om (Zr.el hr2.1) (λhne c hc=>⟨λhs'=>?_,Rd.lt_blk hr2.1.1 hne c hc⟩) λw8 h8 e8=>?_
     ·have:=hr2.2 c hc;have:=(ho.lt_blk c hs').2;have:=(ed.trans e5).size;omega
     refine ab om om ⟨ys.length-(j+1),om,j+1,_,om,rfl,om,h8,by simp [hl],λk=>?_,(e4.trans e46).own e8 λc hc=>(ho6.lt_blk c hc).1⟩;rw [kS om,vx,gl,gl];by_cases h':k=i+j
     ·subst h';rfl
     ·rw [if_neg h',if_neg h']
    ·exact⟨⟨l,ho,hl,λk=>by rw [gl k,xm xs ys om]⟩,e4⟩
   rintro w9 ⟨⟨l,ho,hl,gl⟩,e9⟩;exact ab om om ⟨xs.length-(i+1),om,i+1,l,om,rfl,om,ho,hl,gl,e9⟩
  ·exact⟨⟨l,ho,hl,λk=>by rw [gl k,show i=xs.length by omega,xA]⟩,e3⟩
 rintro w10 ⟨⟨l,ho,hl,gl⟩,e10⟩;refine c1 (rT ho.rq om) ?_;rintro _ w11 e11 rfl;have hc:=(ho.cut (ao l)).ext e11;rw [iD] at hc;refine rt1 (c:=.slice) _ (e10.trans e11) ?_;rw [←td (a:=xs) (b:=ys) (l:=l) gl];exact hc.rq.at
theorem adw{n:Nat}:∀{l:List Int},(∀i,bl (l.getD i 0).natAbs≤n)→hgt l≤n:=by
 have key:∀(l:List Int) (m:Nat),m≤n→(∀i,bl (l.getD i 0).natAbs≤n)→(l.map λz=>bl z.natAbs).foldl max m≤n:=by
  intro l;induction l with
  | nil=>intro m hm _;exact hm
  | cons z l ih=>
   intro m hm h;rw [List.map_cons,List.foldl_cons];have h0:=h 0;simp only [List.getD_cons_zero] at h0;exact ih _ om λi=>by simpa using h (i+1)
 intro l h;exact key l 0 om h
theorem xj(a b:List Int):hgt (pmt a b)≤hgt a+hgt b+bl (min a.length b.length):=adw λi=>by rw [iZ];exact pj a b i
end
section
variable {b1 b10 b11 b12 b3 b4 b5 b6 b7 b8 b9:Nat} {bs:List Nat} {a b xs ys:List Int}
theorem Eg.down12{w:TW}{p:Option Addr}{b2 t:Nat}{now:Int}{tab:List Int}(h:Eg w p (b1::b2::b3::b4::b5::b6::b7::b8::b9::b10::b11::b12::bs) t now tab){K:Addr→Option Addr→Addr→Option Addr→Addr→Option Addr→Addr→Option Addr→Addr→Option Addr→Addr→Option Addr→Addr→Option Addr→Addr→Option Addr→Addr→Option Addr→Addr→Option Addr→Addr→Option Addr→Addr→Option Addr→Prop}(hK:∀a1 q1 a2 q2 a3 q3 a4 q4 a5 q5 a6 q6 a7 q7 a8 q8 a9 q9 a10 q10 a11 q11 a12 q12,Eg w q12 bs t now tab→HcC w t [(a12,.pointer q12),(a11,.pointer q11),(a10,.pointer q10),(a9,.pointer q9),(a8,.pointer q8),(a7,.pointer q7),(a6,.pointer q6),(a5,.pointer q5),(a4,.pointer q4),(a3,.pointer q3),(a2,.pointer q2),(a1,.pointer q1)]→K a1 q1 a2 q2 a3 q3 a4 q4 a5 q5 a6 q6 a7 q7 a8 q8 a9 q9 a10 q10 a11 q11 a12 q12):nck p λa1=>ldc (.ptr) w a1 λ(q1:Option Addr)=>nck q1 λa2=>ldc (.ptr) w a2 λ(q2:Option Addr)=>nck q2 λa3=>ldc (.ptr) w a3 λ(q3:Option Addr)=>nck q3 λa4=>ldc (.ptr) w a4 λ(q4:Option Addr)=>nck q4 λa5=>ldc (.ptr) w a5 λ(q5:Option Addr)=>nck q5 λa6=>ldc (.ptr) w a6 λ(q6:Option Addr)=>nck q6 λa7=>ldc (.ptr) w a7 λ(q7:Option Addr)=>nck q7 λa8=>ldc (.ptr) w a8 λ(q8:Option Addr)=>nck q8 λa9=>ldc (.ptr) w a9 λ(q9:Option Addr)=>nck q9 λa10=>ldc (.ptr) w a10 λ(q10:Option Addr)=>nck q10 λa11=>ldc (.ptr) w a11 λ(q11:Option Addr)=>nck q11 λa12=>ldc (.ptr) w a12 λ(q12:Option Addr)=>K a1 q1 a2 q2 a3 q3 a4 q4 a5 q5 a6 q6 a7 q7 a8 q8 a9 q9 a10 q10 a11 q11 a12 q12:=
 h.downC λq1 E1 h1 n1=>E1.downC λq2 E2 h2 n2=>E2.downC λq3 E3 h3 n3=>E3.downC λq4 E4 h4 n4=>E4.downC λq5 E5 h5 n5=>E5.downC λq6 E6 h6 n6=>E6.downC λq7 E7 h7 n7=>E7.downC λq8 E8 h8 n8=>E8.downC λq9 E9 h9 n9=>E9.downC λq10 E10 h10 n10=>E10.downC λq11 E11 h11 n11=>E11.downC λq12 E12 h12 n12=>hK _ q1 _ q2 _ q3 _ q4 _ q5 _ q6 _ q7 _ q8 _ q9 _ q10 _ q11 _ q12 E12 (.cons h12 n12 (.cons h11 n11 (.cons h10 n10 (.cons h9 n9 (.cons h8 n8 (.cons h7 n7 (.cons h6 n6 (.cons h5 n5 (.cons h4 n4 (.cons h3 n3 (.cons h2 n2 (.cons h1 n1 (.nil _)))))))))))))
theorem Eg.down16{w:TW}{p:Option Addr}{b2 b13 b14 b15 b16 t:Nat}{now:Int}{tab:List Int}(h:Eg w p (b1::b2::b3::b4::b5::b6::b7::b8::b9::b10::b11::b12::b13::b14::b15::b16::bs) t now tab){K:Addr→Option Addr→Addr→Option Addr→Addr→Option Addr→Addr→Option Addr→Addr→Option Addr→Addr→Option Addr→Addr→Option Addr→Addr→Option Addr→Addr→Option Addr→Addr→Option Addr→Addr→Option Addr→Addr→Option Addr→Addr→Option Addr→Addr→Option Addr→Addr→Option Addr→Addr→Option Addr→Prop}(hK:∀a1 q1 a2 q2 a3 q3 a4 q4 a5 q5 a6 q6 a7 q7 a8 q8 a9 q9 a10 q10 a11 q11 a12 q12 a13 q13 a14 q14 a15 q15 a16 q16,Eg w q16 bs t now tab→HcC w t [(a16,.pointer q16),(a15,.pointer q15),(a14,.pointer q14),(a13,.pointer q13),(a12,.pointer q12),(a11,.pointer q11),(a10,.pointer q10),(a9,.pointer q9),(a8,.pointer q8),(a7,.pointer q7),(a6,.pointer q6),(a5,.pointer q5),(a4,.pointer q4),(a3,.pointer q3),(a2,.pointer q2),(a1,.pointer q1)]→K a1 q1 a2 q2 a3 q3 a4 q4 a5 q5 a6 q6 a7 q7 a8 q8 a9 q9 a10 q10 a11 q11 a12 q12 a13 q13 a14 q14 a15 q15 a16 q16):nck p λa1=>ldc (.ptr) w a1 λ(q1:Option Addr)=>nck q1 λa2=>ldc (.ptr) w a2 λ(q2:Option Addr)=>nck q2 λa3=>ldc (.ptr) w a3 λ(q3:Option Addr)=>nck q3 λa4=>ldc (.ptr) w a4 λ(q4:Option Addr)=>nck q4 λa5=>ldc (.ptr) w a5 λ(q5:Option Addr)=>nck q5 λa6=>ldc (.ptr) w a6 λ(q6:Option Addr)=>nck q6 λa7=>ldc (.ptr) w a7 λ(q7:Option Addr)=>nck q7 λa8=>ldc (.ptr) w a8 λ(q8:Option Addr)=>nck q8 λa9=>ldc (.ptr) w a9 λ(q9:Option Addr)=>nck q9 λa10=>ldc (.ptr) w a10 λ(q10:Option Addr)=>nck q10 λa11=>ldc (.ptr) w a11 λ(q11:Option Addr)=>nck q11 λa12=>ldc (.ptr) w a12 λ(q12:Option Addr)=>nck q12 λa13=>ldc (.ptr) w a13 λ(q13:Option Addr)=>nck q13 λa14=>ldc (.ptr) w a14 λ(q14:Option Addr)=>nck q14 λa15=>ldc (.ptr) w a15 λ(q15:Option Addr)=>nck q15 λa16=>ldc (.ptr) w a16 λ(q16:Option Addr)=>K a1 q1 a2 q2 a3 q3 a4 q4 a5 q5 a6 q6 a7 q7 a8 q8 a9 q9 a10 q10 a11 q11 a12 q12 a13 q13 a14 q14 a15 q15 a16 q16:=
 h.downC λq1 E1 h1 n1=>E1.downC λq2 E2 h2 n2=>E2.downC λq3 E3 h3 n3=>E3.downC λq4 E4 h4 n4=>E4.downC λq5 E5 h5 n5=>E5.downC λq6 E6 h6 n6=>E6.downC λq7 E7 h7 n7=>E7.downC λq8 E8 h8 n8=>E8.downC λq9 E9 h9 n9=>E9.downC λq10 E10 h10 n10=>E10.downC λq11 E11 h11 n11=>E11.downC λq12 E12 h12 n12=>E12.downC λq13 E13 h13 n13=>E13.downC λq14 E14 h14 n14=>E14.downC λq15 E15 h15 n15=>E15.downC λq16 E16 h16 n16=>hK _ q1 _ q2 _ q3 _ q4 _ q5 _ q6 _ q7 _ q8 _ q9 _ q10 _ q11 _ q12 _ q13 _ q14 _ q15 _ q16 E16 (.cons h16 n16 (.cons h15 n15 (.cons h14 n14 (.cons h13 n13 (.cons h12 n12 (.cons h11 n11 (.cons h10 n10 (.cons h9 n9 (.cons h8 n8 (.cons h7 n7 (.cons h6 n6 (.cons h5 n5 (.cons h4 n4 (.cons h3 n3 (.cons h2 n2 (.cons h1 n1 (.nil _)))))))))))))))))
theorem Hc.neT{w:TW}{a:Addr}{v:Value}{t:Nat}(h:Hc w a v)(hT:Tz w t)(hv:∀x:Int,v≠.int .i64 x):a.block≠t:=by
 intro e;obtain⟨m,n,d,tb,hT⟩:=hT;have h1:=h.1;unfold World.cell? at h1;rw [e,hT.at_] at h1;simp only at h1;split at h1
 ·cases h1
 ·rw [List.getElem?_toArray,List.getElem?_map] at h1;obtain⟨x,-,hx⟩:=Option.map_eq_some_iff.1 h1;exact hv x hx.symm
theorem HcC.toT{w:TW}{u t:Nat}{l:List (Addr × Value)}(h:HcC w u l)(hT:Tz w t)(hv:∀y∈l,∀x:Int,y.2≠.int .i64 x):HcC w t l:=λy hy=>⟨(h y hy).1,(h y hy).1.neT hT (hv y hy)⟩
def bd(xs ys:List Int):Nat:=if (ae xs).length=0∨(ae ys).length=0 then 0 else hgt xs+hgt ys+bl (min (ae xs).length (ae ys).length)
def Shk(a b:List Int):Prop:=a.length≤4096∧b.length≤4096∧hgt a+hgt b≤100000
theorem Shk.sht(h:Shk a b):Sht a b:=⟨by have:=h.1;omega,by have:=h.2.1;omega,by have:=h.2.2;omega⟩
theorem Shk.trim(h:Shk a b):Shk (ae a) (ae b):=by
 obtain⟨h1,h2,h3⟩:=h;have k1:=ao a;have k2:=ao b;exact⟨om,om,by rw [fJ,fJ];exact h3⟩
theorem Shk.bd(h:Shk a b):bd a b≤100013:=by
 obtain⟨h1,h2,h3⟩:=h;unfold Go.Proofs.YtpbimnlggalnfaaGreatDoor.Zg.bd;split
 ·omega
 ·have:=ao a;have:bl (min (ae a).length (ae b).length)≤13:=aY om;omega
theorem qO(l:List Int):ae (ae l)=ae l:=fE (Nm.trim l)
theorem xH(a b:List Int):bd (ae a) (ae b)=bd a b:=by
 unfold bd;rw [qO,qO,fJ,fJ]
theorem uG{w:TW}{a b:Sl}(ha:Ri w a xs)(hb:Ri w b ys)(hs:Sht xs ys){K:Sl→Sl→TW→Prop}(hK:∀s u w',Ext aa w w'→Oq (dg W64) w' w.w.heap.size T.af s (ae xs)→Oq (dg W64) w' w.w.heap.size T.af u (ae ys)→K s u w'):
  cl Pg F.ba [a.v] w [.one .slice] λ(s:Sl) w1=>cl Pg F.ba [b.v] w1 [.one .slice] λ(s1:Sl) w2=>K s s1 w2:=by
 obtain⟨l1,l2,-⟩:=id hs;refine c1 (polyz_Norm ha om λi=>Nat.le_trans (hs.one i).1 dcd) λs w1 e1 h1=>?_
 refine c1 (polyz_Norm (hb.ext e1) om λi=>Nat.le_trans (hs.one i).2 dcd) λu w2 e2 h2=>?_
 exact hK s u w2 (e1.trans e2) (h1.ext e2) (h2.less e1.size)
theorem rF{w:TW}{p:Option Addr}{a b:Sl}(ha:Ri w a xs)(hb:Ri w b ys)(hs:Shk xs ys):Ct Pg F.cC [.pointer p,a.v,b.v] w aa [.one (.int .i64)] λ(r:Int) _=>r=(bd xs ys:Nat):=by
 refine Ct.cC ?_;unfold Sh.cC;obtain⟨l1,l2,l3⟩:=id hs;refine uG ha.here hb.here hs.sht λs u w2 e2 h1 h2=>?_
 have n1:=h1.len;have n2:=h2.len;have t1:=ao xs;have t2:=ao ys;refine kT n1 n2 ?_;unfold bd;refine ac (λh=>?_) (λh=>?_)
 ·rw [if_pos h];exact rt1 (c:=.int .i64) _ e2 rfl
 rw [if_neg h];refine c1 (polyz_Height h1.rq.ri om λi=>Nat.le_trans (hs.sht.trim.one i).1 dcd) ?_;rintro r w4 e4 rfl;refine c1 (polyz_Height (h2.ext e4).rq.ri om λi=>Nat.le_trans (hs.sht.trim.one i).2 dcd) ?_;rintro r w5 e5 rfl;rw [fJ,fJ];obtain⟨mn,hmn⟩:∃mn,mn=min (ae xs).length (ae ys).length:=⟨_,rfl⟩;rw [←hmn];refine ab om om ?_;refine ag (y:=(mn:Int)) (by split<;>omega) ?_;refine ai rfl (by rw [w64];omega) ?_;refine c1 (bits_Len (x:=mn) (by rw [w64];omega)) ?_;rintro r w6 e6 rfl;have:bl mn≤13:=aY om;exact ab om om (rt1 (c:=.int .i64) _ (((e2.trans e4).trans e5).trans e6) (by push_cast;rfl))
section
variable {w:TW} {p:Option Addr} {zm pz mo hg g po nu ra ro dv rc c m d k e t:Nat} {now:Int} {tab:List Int}
set_option maxHeartbeats 800000 in
theorem yM{a b:Sl}(hE:Eg w p [zm,pz,mo,hg,g,po,nu,ra,ro,dv,rc,c,m,d,k,e] t now tab)(ha:Ri w a xs)(hb:Ri w b ys)(hs:Shk xs ys)(h0:0≤now)(h1:now≤1000000000000000000):
  Ct Pg F.ei [.pointer p,a.v,b.v] w (λk=>k=t) [.one .slice] λ(s:Sl) w'=>Rq (dg W64) w' s (pmt xs ys)∧Eg w' p [zm,pz,mo,hg,g,po,nu,ra,ro,dv,rc,c,m,d,k,e] t now tab:=by
 refine Ct.ei ?_;unfold Sh.ei;obtain⟨l1,l2,l3⟩:=id hs;refine uG ha.here hb.here hs.sht λs u w3 e3 hA hB=>?_
 have hE3:=hE.here.ext e3;have n1:=hA.len;have n2:=hB.len;have t1':=ao xs;have t2':=ao ys;refine kT n1 n2 ?_;refine ac (λhz0=>?_) (λhz0=>?_)
 ·refine rt1 (c:=.slice) Sl.nil e3.any ⟨?_,hE3.at⟩;rw [ph hz0];exact (Oq.nil _ _ 0 T.af).rq
 refine c1 (rF hA.rq.ri hB.rq.ri hs.trim) ?_;rintro r w4 e4 rfl;rw [xH];have hbd:=hs.bd;obtain⟨kk,hkk⟩:∃kk,kk=bd xs ys+2:=⟨_,rfl⟩;refine ag (y:=(kk:Int)) ((ar om om).trans om) ?_;refine ap (by simp;omega) ?_
 have hk2:hgt (ae xs)+hgt (ae ys)+bl (min (ae xs).length (ae ys).length)+2≤kk:=by
  rw [hkk,fJ,fJ];unfold bd;rw [if_neg hz0];omega
 have hun:=zL hk2;rw [vh] at hun
 have hxk:∀z∈ae xs,z.natAbs<2^kk:=λz hz=>by
  obtain⟨i,hi,rfl⟩:=List.getElem_of_mem hz;have:=oK (l:=ae xs) i;rw [List.getD_eq_getElem?_getD,List.getElem?_eq_getElem hi] at this;exact fM (Nat.le_trans this om)
 have hyk:∀z∈ae ys,z.natAbs<2^kk:=λz hz=>by
  obtain⟨i,hi,rfl⟩:=List.getElem_of_mem hz;have:=oK (l:=ae ys) i;rw [List.getD_eq_getElem?_getD,List.getElem?_eq_getElem hi] at this;exact fM (Nat.le_trans this om)
 have bX:bl (ak ((2^kk:Nat):Int) (ae xs)).natAbs≤kk*4096:=by
  refine aY (Nat.lt_of_lt_of_le (oF (Nat.two_pow_pos kk) hxk) ?_);rw [←Nat.pow_mul];exact Nat.pow_le_pow_right dcd (Nat.mul_le_mul_left _ om)
 have bY:bl (ak ((2^kk:Nat):Int) (ae ys)).natAbs≤kk*4096:=by
  refine aY (Nat.lt_of_lt_of_le (oF (Nat.two_pow_pos kk) hyk) ?_);rw [←Nat.pow_mul];exact Nat.pow_le_pow_right dcd (Nat.mul_le_mul_left _ om)
 have hkk':kk*4096≤100015*4096:=Nat.mul_le_mul_right _ om;clear hkk;refine cl0 (zmul_half om 4096 (hA.rq.ri.ext e4) om om hxk) ?_;intro r1 r2 w6 e6 hX;refine cl0 (zmul_half om 4096 (hB.rq.ri.ext (e4.trans e6)) om om hyk) ?_;intro r3 r4 w7 e7 hY;obtain⟨X,hXd⟩:∃X,ak ((2^kk:Nat):Int) (ae xs)=X:=⟨_,rfl⟩;obtain⟨Y,hYd⟩:∃Y,ak ((2^kk:Nat):Int) (ae ys)=Y:=⟨_,rfl⟩;have hX:Io w6 w4.w.heap.size r1 r2 (ak ((2^kk:Nat):Int) (ae xs)):=hX;have hY:Io w7 w6.w.heap.size r3 r4 (ak ((2^kk:Nat):Int) (ae ys)):=hY;rw [hXd] at hX bX hun;rw [hYd] at hY bY hun;intro w8 e8 w9 e9 w10 e10 w11 e11;have e711:=((e8.trans e9).trans e10).trans e11;have e711d:=e711.drew;have e311:=((e4.trans e6).trans e7).trans e711d;have hE11:=hE3.ext e311;have hX:=hX.ext (e7.trans e711d);have hY:=hY.ext e711d;refine hE11.down12 λ_ _ _ _ _ _ _ _ _ _ _ _ _ _ _ _ _ _ _ _ _ _ _ _ E12 H12=>?_
 have sX:=iq (fM bX);have sY:=iq (fM bY);refine t1 hE11.tz (kZ E12 (On.nt hX.1) (On.nt hY.1) om om h0 om) ?_;rintro s3 w12 x12 ⟨h12,E12'⟩;have hE12:=hE11.re x12 E12';refine aN (H12.extT x12).tail ?_
 have hz:Iz w12 s3 (!(r2 == r4)) (X*Y):=by
  refine⟨_,h12.nt,?_⟩;rw [hX.2,hY.2];have hXY:(0:Int)≤(X.natAbs:Int)*Y.natAbs:=Int.mul_nonneg om om;push_cast;rcases Int.lt_or_le X 0 with hx|hx
  ·rcases Int.lt_or_le Y 0 with hy|hy
   ·simp only [hx,hy,decide_true,BEq.rfl,Bool.not_true,Bool.false_eq_true,if_false];rw [show (X.natAbs:Int)=-X by omega,show (Y.natAbs:Int)=-Y by omega,Int.neg_mul_neg]
   ·simp only [hx,show ¬Y<0 by omega,decide_true,decide_false];simp only [show (true == false)=false from rfl,Bool.not_false,if_true];rw [show (X.natAbs:Int)=-X by omega,show (Y.natAbs:Int)=Y by omega,Int.neg_mul,Int.neg_neg]
  ·rcases Int.lt_or_le Y 0 with hy|hy
   ·simp only [hy,show ¬X<0 by omega,decide_true,decide_false];simp only [show (false == true)=false from rfl,Bool.not_false,if_true];rw [show (X.natAbs:Int)=X by omega,show (Y.natAbs:Int)=-Y by omega,Int.mul_neg,Int.neg_neg]
   ·simp only [show ¬X<0 by omega,show ¬Y<0 by omega,decide_false,BEq.rfl,Bool.not_true,Bool.false_eq_true,if_false];rw [show (X.natAbs:Int)=X by omega,show (Y.natAbs:Int)=Y by omega]
 have bXY:bl (X*Y).natAbs≤1073741824:=by
  have h5:bl (X.natAbs*Y.natAbs)≤kk*4096+kk*4096:=aY (by
   rw [Nat.pow_add];exact Nat.mul_lt_mul'' (fM bX) (fM bY))
  rw [Int.natAbs_mul];omega
 refine cl0 (num_Norm hz (by have:=iq (fM bXY);omega)) ?_;intro r5 r6 w13 e13 h13;have h13:Io w13 w12.w.heap.size r5 r6 (X*Y):=h13;refine c1 (zmul_unpacked (k:=kk) h13 om om bXY) ?_;rintro s4 w14 e14 ⟨l,hu,hr,-,-⟩;have:=hun.det hu;subst this;exact rt1 (c:=.slice) _ (((e3.trans e311).any.trans x12).trans (e13.trans e14).any) ⟨hr.at,((hE12.ext e13).ext e14).at⟩
end
theorem acx{n:Nat}(h:isP n=true)(h37:37<n):n%2=1:=by
 rcases Nat.mod_two_eq_zero_or_one n with h2|h2
 ·exfalso;unfold isP at h;rw [if_neg om] at h
  have:bt.find? (λp=>n%p == 0)=some 2:=by
   unfold bt;rw [List.find?_cons,h2];rfl
  rw [this] at h;simp at h;omega
 ·exact h2
theorem zmul_before{w:TW}{P q:Nat}(hw:Gl w)(hP:P≤4611686018427387904)(hN:Nxp P q):Ct Pg F.iO [.int .u64 P] w aa [.one (.int .u64)] λ(r:Int) _=>r=q:=by
 refine Ct.iO ?_;unfold Sh.iO;obtain⟨h1,h2,h3⟩:=hN;refine fA (a:=P) (b:=1) rfl rfl om (by rw [w64];omega) ?_;refine j1 (λ(r:Int) w'=>r=q∧Ext aa w.here w') ?_ ?_
 ·refine lp1 (λm (x:Int) w1=>∃j:Nat,x=j∧m=j-q∧q≤j∧j<P∧Ext aa w.here w1) (P-1-q) ⟨P-1,rfl,rfl,om,om,Ext.refl _ _⟩ ?_;rintro m x w1 ⟨j,rfl,rfl,hq,hj,e1⟩;refine c1 (prime_Is (hw.here.ext e1) (by rw [w64];omega)) ?_;rintro r w2 e2 rfl;cases hP':isP j with
  | false=>
   have hne:j≠q:=λh=>by rw [h,h2] at hP';cases hP'
   exact aQ rfl (fA (a:=j) (b:=1) rfl rfl om (by rw [w64];omega) ⟨j-1-q,om,j-1,rfl,rfl,om,om,e1.trans e2⟩)
  | true=>
   refine ap rfl ⟨?_,e1.trans e2⟩;rcases Nat.lt_or_ge q j with h|h
   ·rw [h3 j h hj] at hP';cases hP'
   ·rw [show j=q by omega]
 rintro r w' ⟨rfl,e⟩;exact rt1 (c:=.int .u64) _ e rfl
end
section
variable {i:Int} {j:Nat}
theorem Eg.down2{w:TW}{p:Option Addr}{b1 b2 t:Nat}{bs:List Nat}{now:Int}{tab:List Int}(h:Eg w p (b1::b2::bs) t now tab){K:Addr→Option Addr→Addr→Option Addr→Prop}(hK:∀a1 q1 a2 q2,Eg w q2 bs t now tab→HcC w t [(a2,.pointer q2),(a1,.pointer q1)]→K a1 q1 a2 q2):nck p λa1=>ldc (.ptr) w a1 λ(q1:Option Addr)=>nck q1 λa2=>ldc (.ptr) w a2 λ(q2:Option Addr)=>K a1 q1 a2 q2:=
 h.downC λq1 E1 h1 n1=>E1.downC λq2 E2 h2 n2=>hK _ q1 _ q2 E2 (.cons h2 n2 (.cons h1 n1 (.nil _)))
def ad8:Value→Bool
 | .pointer _=>true
 | _=>false
theorem HcC.ptrs{w:TW}{u t:Nat}{l:List (Addr × Value)}(h:HcC w u l)(hT:Tz w t)(hl:(l.all λy=>ad8 y.2)=true):HcC w t l:=h.toT hT λy hy x e=>by
 have:=List.all_eq_true.1 hl y hy;rw [e] at this;cases this
def Opr(w:TW)(B:Nat)(s:Sl)(rs:List Nat):Prop:=∃ts:List S2t,Own w B T.pE 2 s (ts.flatMap p2v)∧ts.length=rs.length∧∀i (h:i<ts.length),Rd w ts[i].1 (dg W64 (rs.getD i 0))∧(dg W64 (rs.getD i 0)≠[]→∀c,ts[i].1.blk=some c→s.blk≠some c∧c<w.w.heap.size)
theorem ab5:T.pE≠T.dj:=dcd
section
variable {w w':TW} {B t:Nat} {s:Sl} {rs:List Nat}
theorem Opr.ext(h:Opr w B s rs)(e:Ext aa w w'):Opr w' B s rs:=by
 obtain⟨ts,h1,h2,h3⟩:=h;exact⟨ts,h1.ext e λ_ _ h=>h,h2,λi hi=>⟨(h3 i hi).1.ext e,λhn c hc=>⟨((h3 i hi).2 hn c hc).1,Nat.lt_of_lt_of_le ((h3 i hi).2 hn c hc).2 e.size⟩⟩⟩
theorem Opr.extT(h:Opr w B s rs)(hT:Tz w t)(e:Xt1 t w w'):Opr w' B s rs:=by
 obtain⟨ts,h1,h2,h3⟩:=h;exact⟨ts,h1.extT hT ab5 e,h2,λi hi=>⟨(h3 i hi).1.extT hT e,λhn c hc=>⟨((h3 i hi).2 hn c hc).1,Nat.lt_of_lt_of_le ((h3 i hi).2 hn c hc).2 e.size⟩⟩⟩
theorem Opr.at{k:Nat}(h:Opr w B s rs):Opr (w.at k) B s rs:=by
 obtain⟨ts,h1,h2,h3⟩:=h;exact⟨ts,h1.at,h2,λi hi=>⟨Rd.at_ (h3 i hi).1,(h3 i hi).2⟩⟩
theorem Opr.here(h:Opr w B s rs):Opr w.here B s rs:=h.at
theorem Opr.len(h:Opr w B s rs):s.n=rs.length:=by
 obtain⟨ts,h1,h2,_⟩:=h;rw [h1.rdv.lenk mU dcd,h2]
theorem Opr.lt_blk(h:Opr w B s rs):∀c,s.blk=some c→B≤c∧c<w.w.heap.size:=by
 obtain⟨ts,g1,_⟩:=h;exact g1.from_
theorem Opr.V(h:Opr w B s rs):∀c,s.blk=some c→¬w.V c:=by
 obtain⟨ts,g1,_⟩:=h;exact g1.2
theorem Opr.ix(h:Opr w B s rs)(hi:i=j)(hj:j<rs.length){K:Addr→Prop}(hK:∀a u v,Nt w u (rs.getD j 0)→w.w.cell? a=some u.v→w.w.cell? (a.add 0)=some u.v→w.w.cell? (a.add 1)=some (Sl.v v)→K a):ixa s i 2 K:=by
 obtain⟨ts,h1,h2,h3⟩:=h;have hj':j<ts.length:=om;refine h1.rdv.atk mU dcd hi hj' λa ha=>?_
 have h0:=ha 0 dcd;refine hK a ts[j].1 ts[j].2 ⟨_,(h3 j hj').1,aV W2 _⟩ ?_ h0 (ha 1 dcd);have e:a.add 0=a:=if_pos rfl;exact (congrArg w.w.cell? e).symm.trans h0
theorem zD(x:Sl):∀(l:List S2t) (i:Nat) (h:i<l.length),(l.flatMap p2v).set (2*i) x.v=(l.set i (x,l[i].2)).flatMap p2v
 | y::l,0,_=>rfl
 | y::l,i+1,h=>by
  have:=zD x l i (by simpa using h);rw [List.set_cons_succ,List.flatMap_cons,List.flatMap_cons];simp only [List.getElem_cons_succ];rw [←this,show 2*(i+1)=2*i+2 by omega];simp [p2v]
theorem Opr.set{x:Sl}{z:Nat}(h:Opr w B s rs)(hi:i=j)(hj:j<rs.length)(hz:Rd w x (dg W64 z))(hb:dg W64 z≠[]→∀c,x.blk=some c→s.blk≠some c∧c<w.w.heap.size){K:TW→Prop}(hK:∀w',Opr w' B s (rs.set j z)→Ext (λc=>s.blk=some c) w w'→K w'):ixa s i 2 λa=>stc w a x.v K:=by
 obtain⟨ts,g1,g2,g3⟩:=h;have hj':j<ts.length:=om;subst hi;have hl:=g1.rdv.lenk mU dcd;rcases g1.form with ⟨rfl,hv⟩|⟨b,cur,hp,_⟩
 ·simp at hl;omega
 refine⟨⟨b,0,none⟩,hp,om,om,?_⟩;rw [eX,show 0+(j:Int).toNat*2=2*j by omega];refine g1.put hp (by rw [oL mU];omega) _ λw' h' x'=>hK w' ⟨ts.set j (x,ts[j].2),?_,by simp [g2],λi hi=>?_⟩ x'
 ·rw [zD x ts j hj'] at h';exact h'
 have key:∀(u:Sl) (q:Nat),Rd w u (dg W64 q)→(dg W64 q≠[]→∀c,u.blk=some c→s.blk≠some c∧c<w.w.heap.size)→Rd w' u (dg W64 q)∧(dg W64 q≠[]→∀c,u.blk=some c→s.blk≠some c∧c<w'.w.heap.size):=λu q k1 k2=>
  ⟨k1.extN x' λhne c hc=>(k2 hne c hc).1,λhne c hc=>⟨(k2 hne c hc).1,Nat.lt_of_lt_of_le (k2 hne c hc).2 x'.size⟩⟩
 simp only [List.length_set] at hi;rw [i5 om];by_cases hij:j=i
 ·subst hij;rw [List.getElem_set_self,if_pos rfl];exact key _ _ hz hb
 ·rw [List.getElem_set_ne hij,if_neg (λh=>hij h.symm)];exact key _ _ (g3 i hi).1 (g3 i hi).2
theorem ad6{n:Int}{N:Nat}{K:Sl→TW→Prop}(hn:n=N)(hN:N≤1073741824)(h:∀s w',Opr w' w.w.heap.size s (List.replicate N 0)→Ext aa w w'→K s w'):mks w n n T.pE 48 [.slice none 0 0,.slice none 0 0] K:=by
 subst hn;refine⟨om,Int.le_refl _,om,om,λb w' hnew=>h _ _ ⟨List.replicate N (Sl.nil,Sl.nil),⟨⟨by rw [oL mU];simp;omega,.inr ⟨b,N,(List.replicate N [Value.slice none 0 0,Value.slice none 0 0]).flatten.toArray,smp,by have:=hnew.at_;omega,by simpa using hnew.heap,Nat.le_refl _,by simp only [maxLen];omega,?_,?_⟩⟩,?_⟩,smp,λi hi=>?_⟩ (hnew.ext _)⟩
 ·simp
 ·have e0:∀N:Nat,(List.replicate N [Value.slice none 0 0,Value.slice none 0 0]).flatten=(List.replicate N ((Sl.nil,Sl.nil):S2t)).flatMap p2v:=by
   intro N;induction N with
   | zero=>rfl
   | succ N ih=>rw [List.replicate_succ,List.replicate_succ,List.flatten_cons,List.flatMap_cons,ih];rfl
  rw [Int.toNat_natCast,e0,List.toList_toArray,List.take_of_length_le (by rw [oL mU];simp;omega)]
 ·intro c hc hV;simp [Sl.blk] at hc;rw [hnew.V] at hV;have:=w.lt _ hV;have:=hnew.at_;omega
 ·rw [mC,az];simp only [List.getElem_replicate];exact⟨Rd.nil _,λh=>absurd rfl h⟩
end
section
variable {w:TW} {p:Option Addr} {zm pz mo hg g po nu ra ro dv rc c m d k e t:Nat} {now:Int} {tab:List Int}
theorem uO{p:Nat}(hp:0<p)(x:Int):cg (p:Int) x ((x%(p:Int)).toNat:Nat):=by
 have h1:=Int.emod_nonneg x (show (p:Int)≠0 by omega);refine⟨x/(p:Int),?_⟩;have:=Int.emod_add_mul_ediv x (p:Int);omega
theorem abC{p:Nat}{x:Int}{y:Nat}(hp:0<p)(h:cg (p:Int) x (y:Nat)):(x%(p:Int)).toNat=y%p:=by
 obtain⟨k,hk⟩:=h;rw [hk,Int.add_mul_emod_self_left,←Int.natCast_emod,Int.toNat_natCast]
set_option maxHeartbeats 1600000 in
theorem wn{a b:Sl}{xs ys:List Int}{P:Nat}(hE:Eg w p [zm,pz,mo,hg,g,po,nu,ra,ro,dv,rc,c,m,d,k,e] t now tab)(ha:Ri w a xs)(hb:Ri w b ys)(hs:Shk xs ys)(h3:3≤P)(hlt:P<4611686018427387904)(hodd:P%2=1)(hP:isP P=true):
  Ct Pg F.cR [.pointer p,a.v,b.v,.int .u64 P] w (λk=>k=t) [.one .slice] λ(s:Sl) w'=>Op w' w.w.heap.size s (xs.length+ys.length) (λi=>((pm xs ys).getD i 0%(P:Int)).toNat)∧Eg w' p [zm,pz,mo,hg,g,po,nu,ra,ro,dv,rc,c,m,d,k,e] t now tab:=by
 refine Ct.cR ?_;unfold Sh.cR;obtain⟨l1,l2,l3⟩:=id hs;refine c2 (polyz_Reduce ha.here om (λi=>Nat.le_trans (hs.sht.one i).1 dcd) om hlt) ?_;rintro s er w1 e1 ⟨la,hA,nA,gA⟩;refine c2 (polyz_Reduce (hb.here.ext e1) om (λi=>Nat.le_trans (hs.sht.one i).2 dcd) om hlt) ?_;rintro s1 er w2 e2 ⟨lb,hB,nB,gB⟩;have e12:=e1.trans e2;have hE2:=hE.here.ext e12;refine hE2.down16 λ_ _ _ _ _ _ _ _ _ _ _ _ _ _ _ _ _ _ _ _ _ _ _ _ _ _ _ _ _ _ _ _ E16 _=>E16.ents λr0 r1 r2 r3 r4 r5 r6 r7 r8 r9 r10 htab=>?_
 refine c2 (pmul_New (tb:=(r0,r1,r2,r3,r4,r5,r6,r7,r8,r9,r10,())) hE2.gl h3 hlt hodd hP) ?_;rintro p1 er w3 e3 ⟨rfl,np,mo',hg',g',po',nu',ra',ro',dv',rc',c',m',d',k',e',t',tab',hPe,hN,hge⟩;refine ap smp ?_;refine t1 hN.tz (aaQ hPe hN ((hA.ext e2).ext e3).rd (hB.ext e3).rd om om dcd dcd) ?_;rintro s2 w4 x4 ⟨h4,hN4⟩;have e24:Ext aa w2 w4:=e3.own x4 λb hb=>by rw [hb];exact hge
 have hE4:=(hE2.ext e24).drew;have hPe4:=(hPe.extT hN.tz x4).drew;have hN4:=hN4.drew;refine hE4.down16 λ_ _ _ _ _ _ _ _ _ _ _ _ _ _ _ _ _ _ _ _ _ _ _ _ _ _ _ _ _ _ _ _ E16' H16=>E16'.bot λm1 d1 hT=>?_
 refine hPe4.en λa35 k35 t35=>hN4.down14 λ_ _ _ _ _ _ _ _ _ _ _ _ _ _ _ _ _ _ _ _ _ _ _ _ _ _ _ _ E14 H14=>E14.bot λm2 d2 hT'=>?_
 have H:=(H14.ptrs hE4.tz rfl).app (HcC.cons k35 (t35 t hE4.tz) H16);refine c1 (yh hT') ?_;rintro r w5 e5 rfl;refine aN (H.ext e5) ?_;have hE5:=hE4.ext e5;refine t1 hE5.tz (jw (hT.ext e5)) ?_;rintro r w6 x6 ⟨-,hT6⟩;refine aN ((H.ext e5).extT x6) ?_;have hE6:=hE5.set x6 hT6;have e25:=e24.trans ((Ext.refl _ _).drew.trans e5);have y6:Xt1 t w.here w6:=(e12.trans e25).any.trans x6;have h6:=(h4.ext ((Ext.refl aa w4).drew.trans e5)).extT hE5.tz x6;refine rt1 (c:=.slice) _ y6 ⟨((h6.of om λi=>?_).less (Nat.le_trans e12.size e3.size)).at,hE6.at⟩;show cv la lb i%P=((pm xs ys).getD i 0%(P:Int)).toNat;refine (abC om (adb (λi=>?_) (λi=>?_) i)).symm
 ·rw [gA i];exact uO om _
 ·rw [gB i];exact uO om _
end
end
end Go.Proofs.YtpbimnlggalnfaaGreatDoor.Zg
