/- A part of the proofs of this seat's laws. -/
import Derived.Test.YtpbimnlggalnfaaGreatDoorGMB
import Derived.Test.YtpbimnlggalnfaaGreatDoorGP
import Derived.Test.YtpbimnlggalnfaaGreatDoorGIA
import Derived.Test.YtpbimnlggalnfaaGreatDoorGKA
set_option linter.unusedVariables false
set_option linter.unusedSimpArgs false
set_option linter.unnecessarySimpa false
namespace Go.Proofs.YtpbimnlggalnfaaGreatDoor.Zg
open Go.RowKit
section
variable {b bm q:Nat} {vs:List Value}
theorem Rw.uniq{w:TW}{us:List Value}(h:Rw w b vs)(k:Rw w b us):vs=us:=by
 obtain⟨ty,h⟩:=h.at_;obtain⟨ty',k⟩:=k.at_;rw [h] at k;simp at k;exact k.1
theorem Md.put{w w':TW}(h:Md w (some ⟨bm,0,none⟩) q)(k:Rw w b vs)(hl:vs.length≠4)(e:Ext (λc=>c=b) w w'):Md w' (some ⟨bm,0,none⟩) q:=by
 refine h.extB e ?_;rintro rfl;obtain⟨b',n,o,u,h1,h2,_⟩:=h;have:bm=b':=by simpa using h1
 subst this;have:=h2.uniq k;rw [←this] at hl;exact hl rfl
theorem Md.blt{w:TW}(h:Md w (some ⟨bm,0,none⟩) q):bm<w.w.heap.size:=by
 obtain⟨b',n,o,u,h1,h2,_⟩:=h;have:bm=b':=by simpa using h1
 have:=h2.lt;omega
def Q0:Nat:=180143985094819841
def Q1:Nat:=1945555039024054273
def Q2:Nat:=4179340454199820289
def QH:Nat:=18999560927969280
def QL:Nat:=2125699024118874113
theorem uC:3≤Q0∧Q0<4611686018427387904∧Q0%2=1:=by unfold Q0;decide
theorem uB:3≤Q1∧Q1<4611686018427387904∧Q1%2=1:=by unfold Q1;decide
theorem uA:3≤Q2∧Q2<4611686018427387904∧Q2%2=1:=by unfold Q2;decide
theorem ac8:∃y,Q0*y%Q1=1:=⟨714693687804754632,by unfold Q0 Q1;decide⟩
theorem ac7:∃y,(Q0*Q1%Q2)*y%Q2=1:=⟨2006472080888725116,by unfold Q0 Q1 Q2;decide⟩
theorem aev:Q0*Q1/W64=QH:=by unfold Q0 Q1 QH;decide
theorem aeu:Q0*Q1%W64=QL:=by unfold Q0 Q1 QL;decide
theorem q_w:Q0<W64∧Q1<W64∧Q2<W64:=by unfold Q0 Q1 Q2;decide
def QI(i01 i2:Nat):Prop:=(i01<Q1∧Q0*i01%Q1=1)∧(i2<Q2∧(Q0*Q1%Q2)*i2%Q2=1)
def Cr(w:TW)(c:Option Addr)(D:Nat):Prop:=∃b b0 b1 b2 i01 i2:Nat,c=some ⟨b,0,none⟩∧
 Rw w b [U Q0,U Q1,U Q2,.pointer (some ⟨b0,0,none⟩),.pointer (some ⟨b1,0,none⟩),.pointer (some ⟨b2,0,none⟩),U i01,U i2,U QH,U QL]∧
 Md w (some ⟨b0,0,none⟩) Q0∧Md w (some ⟨b1,0,none⟩) Q1∧Md w (some ⟨b2,0,none⟩) Q2∧
 QI i01 i2∧(b<D∧b0<D∧b1<D∧b2<D)
section
variable {w w':TW} {c:Option Addr} {D:Nat}
theorem Cr.extD{X:Nat→Prop}(h:Cr w c D)(e:Ext X w w')(hX:∀c,X c→D≤c):Cr w' c D:=by
 obtain⟨b,b0,b1,b2,i,j,h1,h2,h3,h4,h5,h6,d0,d1,d2,d3⟩:=h;have n:∀c,c<D→¬X c:=λc hc h=>by have:=hX c h;omega
 exact⟨b,b0,b1,b2,i,j,h1,h2.extX e (n _ d0),h3.extB e (n _ d1),h4.extB e (n _ d2),h5.extB e (n _ d3),h6,d0,d1,d2,d3⟩
theorem Cr.ext(h:Cr w c D)(e:Ext aa w w'):Cr w' c D:=h.extD e λ_ h=>h.elim
theorem Cr.here(h:Cr w c D):Cr w.here c D:=by
 obtain⟨b,b0,b1,b2,i,j,h1,h2,h3,h4,h5,h6⟩:=h;exact⟨b,b0,b1,b2,i,j,h1,h2.here,h3.here,h4.here,h5.here,h6⟩
theorem Cr.extT{t:Nat}(h:Cr w c D)(hT:Tz w t)(e:Xt1 t w w'):Cr w' c D:=by
 obtain⟨b,b0,b1,b2,i,j,h1,h2,h3,h4,h5,h6⟩:=h;exact⟨b,b0,b1,b2,i,j,h1,h2.extT hT (by simp [U]) e,h3.extT hT e,h4.extT hT e,h5.extT hT e,h6⟩
end
theorem prime_Three{w:TW}:Ct Pg F.iU [] w aa [.agg [.int .u64,.int .i64,.int .u64,.int .u64,.int .i64,.int .u64,.int .u64,.int .i64,.int .u64]] λ(r0 r1 r2 r3 r4 r5 r6 r7 r8:Int) _=>r0=(Q0:Nat)∧r3=(Q1:Nat)∧r6=(Q2:Nat):=by
 refine Ct.iU ?_;unfold Sh.iU;intro w1 e1 w2 e2;exact⟨(180143985094819841,55,6,1945555039024054273,56,5,4179340454199820289,57,3,()),rfl,e1.trans e2,by simp [Q0],by simp [Q1],by simp [Q2]⟩
theorem conv_begun{w:TW}:Ct Pg F.jt [] w aa [.one .ptr] λ(c:Option Addr) w'=>Cr w' c w'.w.heap.size:=by
 refine Ct.jt ?_;unfold Sh.jt;intro b w1 hn;have e1:Ext aa w.here w1:=hn.ext _;have hb:w.w.heap.size≤b:=Nat.le_of_eq hn.at_.symm;have R0:Rw w1 b [U 0,U 0,U 0,.pointer none,.pointer none,.pointer none,U 0,U 0,U 0,U 0]:=⟨⟨_,hn.heap⟩,λhV=>by rw [hn.V] at hV;have:=w.here.lt _ hV;have:=hn.at_;omega⟩;refine cl0 prime_Three ?_;intro r0 r1 r2 r3 r4 r5 r6 r7 r8 w2 e2 hr;obtain⟨rfl,rfl,rfl⟩:r0=(Q0:Nat)∧r3=(Q1:Nat)∧r6=(Q2:Nat):=hr;have R1:=R0.ext e2;have e2:=e1.trans e2
 have step:∀(j q:Nat) (vs:List Value) (w3:TW),j<3→3≤q→q<4611686018427387904→q%2=1→Rw w3 b vs→vs.length=10→Ext aa w.here w3→∀{K:Int→TW→Prop},
   (∀w8 bm,Rw w8 b ((vs.set j (U q)).set (3+j) (.pointer (some ⟨bm,0,none⟩)))→Md w8 (some ⟨bm,0,none⟩) q→(∀bm' q',Md w3 (some ⟨bm',0,none⟩) q'→Md w8 (some ⟨bm',0,none⟩) q')→Ext aa w.here w8→K ((j+1:Nat):Int) w8)→
   nwv w3 λw4=>nwv w4 λw5=>ixp ⟨b,0,none⟩ (j:Int) 3 1 λa=>stc w5.drew a (.int .u64 (q:Int)) λw6=>cl Pg F.i9 [.int .u64 (q:Int)] w6.drew [.one .ptr,.one (.int .i64)] λ(p:Option Addr)(_:Int) w7=>ixp (Addr.add ⟨b,0,none⟩ 3) (j:Int) 3 1 λa1=>stc w7 a1 (.pointer p) λw8=>bnd (wi ((j:Int)+1)) λn=>K n w8:=by
  intro j q vs w3 hj h3 hlt hodd hR hl e3 K hK w4 e4 w5 e5;have hR5:=((hR.ext e4).ext e5).drew;refine⟨om,om,?_⟩;refine hR5.put (j:=j) (by rw [Int.toNat_natCast,Nat.mul_one,Addr.add_mk,Nat.zero_add]) om (U q) λw6 hR6 e6=>?_
  have e36:=((e4.trans e5).drew.any (X:=λc=>c=b)).trans e6;have e16:Ext aa w.here w6:=((e3.trans e4).trans e5).drew.mine e6 λc hc=>by subst hc;exact hb
  refine c2 (modw_New h3 hlt hodd) ?_;rintro p er w7 e7 ⟨rfl,hM,bm,rfl,hbm⟩;have hR7:=hR6.drew.ext e7;refine⟨om,om,?_⟩;refine hR7.put (j:=3+j) (by rw [Int.toNat_natCast,Nat.mul_one,Addr.add_mk,Addr.add_mk,Nat.zero_add]) (by simp;omega) (.pointer (some ⟨bm,0,none⟩)) λw8 hR8 e8=>?_
  refine ag (y:=((j+1:Nat):Int)) (by rw [ar om om];omega) ?_;refine hK w8 bm hR8 (hM.put hR7 (by simp;omega) e8) (λbm' q' hM'=>?_) ((e16.drew.trans e7).mine e8 λc hc=>by subst hc;exact hb);have h5:Md w5.drew (some ⟨bm',0,none⟩) q':=((hM'.ext e4).ext e5).drew;exact ((h5.put hR5 om e6).drew.ext e7).put hR7 (by simp;omega) e8
 refine j0 (λw'=>∃b0 b1 b2,Rw w' b [U Q0,U Q1,U Q2,.pointer (some ⟨b0,0,none⟩),.pointer (some ⟨b1,0,none⟩),.pointer (some ⟨b2,0,none⟩),U 0,U 0,U 0,U 0]∧Md w' (some ⟨b0,0,none⟩) Q0∧Md w' (some ⟨b1,0,none⟩) Q1∧Md w' (some ⟨b2,0,none⟩) Q2∧Ext aa w.here w') ?_ ?_
 ·refine lp1 (λm (i:Int) w'=>∃j:Nat,i=j∧m=3-j∧j≤3∧Ext aa w.here w'∧(j=0→Rw w' b [U 0,U 0,U 0,.pointer none,.pointer none,.pointer none,U 0,U 0,U 0,U 0])∧
   (j=1→∃b0,Rw w' b [U Q0,U 0,U 0,.pointer (some ⟨b0,0,none⟩),.pointer none,.pointer none,U 0,U 0,U 0,U 0]∧Md w' (some ⟨b0,0,none⟩) Q0)∧
   (j=2→∃b0 b1,Rw w' b [U Q0,U Q1,U 0,.pointer (some ⟨b0,0,none⟩),.pointer (some ⟨b1,0,none⟩),.pointer none,U 0,U 0,U 0,U 0]∧Md w' (some ⟨b0,0,none⟩) Q0∧Md w' (some ⟨b1,0,none⟩) Q1)∧
   (j=3→∃b0 b1 b2,Rw w' b [U Q0,U Q1,U Q2,.pointer (some ⟨b0,0,none⟩),.pointer (some ⟨b1,0,none⟩),.pointer (some ⟨b2,0,none⟩),U 0,U 0,U 0,U 0]∧Md w' (some ⟨b0,0,none⟩) Q0∧Md w' (some ⟨b1,0,none⟩) Q1∧Md w' (some ⟨b2,0,none⟩) Q2)) 3 ⟨0,rfl,rfl,om,e2,λ_=>R1,λh=>by omega,λh=>by omega,λh=>by omega⟩ ?_
  rintro m i w3 ⟨j,rfl,rfl,hj,e3,h0,h1,h2,h3⟩;refine ac (λhc=>?_) (λhc=>?_)
  ·have:j=0∨j=1∨j=2:=om;rcases this with rfl|rfl|rfl
   ·have hR:=h0 rfl;refine⟨dcd,dcd,(Q0:Nat),rfl,_,rfl,_,rfl,?_⟩;refine step 0 Q0 _ w3 dcd uC.1 uC.2.1 uC.2.2 hR rfl e3 λw8 bm k1 k2 k3 k4=>⟨2,dcd,1,rfl,rfl,dcd,k4,λh=>(by cases h),λ_=>⟨bm,k1,k2⟩,λh=>(by cases h),λh=>(by cases h)⟩
   ·obtain⟨b0,hR,g0⟩:=h1 rfl;refine⟨dcd,dcd,(Q1:Nat),rfl,_,rfl,_,rfl,?_⟩;refine step 1 Q1 _ w3 dcd uB.1 uB.2.1 uB.2.2 hR rfl e3 λw8 bm k1 k2 k3 k4=>⟨1,dcd,2,rfl,rfl,dcd,k4,λh=>(by cases h),λh=>(by cases h),λ_=>⟨b0,bm,k1,k3 _ _ g0,k2⟩,λh=>(by cases h)⟩
   ·obtain⟨b0,b1,hR,g0,g1⟩:=h2 rfl;refine⟨dcd,dcd,(Q2:Nat),rfl,_,rfl,_,rfl,?_⟩;refine step 2 Q2 _ w3 dcd uA.1 uA.2.1 uA.2.2 hR rfl e3 λw8 bm k1 k2 k3 k4=>⟨0,dcd,3,rfl,rfl,dcd,k4,λh=>(by cases h),λh=>(by cases h),λh=>(by cases h),λ_=>⟨b0,b1,bm,k1,k3 _ _ g0,k3 _ _ g1,k2⟩⟩
  ·have:j=3:=om;obtain⟨b0,b1,b2,hR,g⟩:=h3 this;exact⟨b0,b1,b2,hR,g.1,g.2.1,g.2.2,e3⟩
 clear step R1 R0 e2;rintro w2 ⟨b0,b1,b2,R1,g0,g1,g2,e2⟩;refine⟨dcd,dcd,some ⟨b1,0,none⟩,(R1.cell 4).trans rfl,?_⟩;refine⟨dcd,dcd,(Q0:Nat),(R1.cell 0).trans rfl,?_⟩;refine c2 (pn g1.drew ac8) ?_;rintro r ok w3 e3 ⟨rfl,i01,rfl,hi1,hi2⟩;have R3:=R1.drew.ext e3;refine R3.put (j:=6) rfl smp (U i01) λw4 R4 e4=>?_
 have u0:=(g0.drew.ext e3).put R3 smp e4;have u1:=(g1.drew.ext e3).put R3 smp e4;have u2:=(g2.drew.ext e3).put R3 smp e4;have e14:=(e2.drew.trans e3).mine e4 λc hc=>by subst hc;exact hb
 have R4:Rw w4 b [U Q0,U Q1,U Q2,.pointer (some ⟨b0,0,none⟩),.pointer (some ⟨b1,0,none⟩),.pointer (some ⟨b2,0,none⟩),U i01,U 0,U 0,U 0]:=R4;refine⟨dcd,dcd,some ⟨b2,0,none⟩,(R4.cell 5).trans rfl,?_⟩;refine⟨dcd,dcd,some ⟨b2,0,none⟩,(R4.cell 5).trans rfl,?_⟩;refine⟨dcd,dcd,(Q0:Nat),(R4.cell 0).trans rfl,?_⟩;refine⟨dcd,dcd,(Q1:Nat),(R4.cell 1).trans rfl,?_⟩;refine c1 (iu u2.drew) ?_;rintro r w5 e5 rfl;have R5:=R4.drew.ext e5;refine kG ((R5.cell 5).trans rfl) ?_;refine c2 (pn (u2.drew.ext e5) ac7) ?_;rintro r ok w6 e6 ⟨rfl,i2,rfl,hi3,hi4⟩;have R6:=R5.ext e6;refine R6.put (j:=7) rfl smp (U i2) λw7 R7 e7=>?_
 have v0:=((u0.drew.ext e5).ext e6).put R6 smp e7;have v1:=((u1.drew.ext e5).ext e6).put R6 smp e7;have v2:=((u2.drew.ext e5).ext e6).put R6 smp e7;have e17:=((e14.drew.trans e5).trans e6).mine e7 λc hc=>by subst hc;exact hb
 have R7:Rw w7 b [U Q0,U Q1,U Q2,.pointer (some ⟨b0,0,none⟩),.pointer (some ⟨b1,0,none⟩),.pointer (some ⟨b2,0,none⟩),U i01,U i2,U 0,U 0]:=R7;refine⟨dcd,dcd,(Q0:Nat),(R7.cell 0).trans rfl,?_⟩;refine⟨dcd,dcd,(Q1:Nat),(R7.cell 1).trans rfl,?_⟩;refine c2 (bits_Mul64 q_w.1 q_w.2.1) ?_;rintro hi lo w8 e8 ⟨rfl,rfl⟩;rw [aev,aeu];have R8:=R7.drew.ext e8;refine R8.put (j:=8) rfl smp (U QH) λw9 R9 e9=>?_
 refine R9.put (j:=9) rfl smp (U QL) λw10 R10 e10=>?_
 have x0:=((v0.drew.ext e8).put R8 smp e9).put R9 smp e10;have x1:=((v1.drew.ext e8).put R8 smp e9).put R9 smp e10;have x2:=((v2.drew.ext e8).put R8 smp e9).put R9 smp e10;have e1z:=((e17.drew.trans e8).mine e9 λc hc=>by subst hc;exact hb).mine e10 λc hc=>by subst hc;exact hb
 refine rt1 (c:=.ptr) (some ⟨b,0,none⟩) e1z ⟨b,b0,b1,b2,i01,i2,rfl,R10.mv,x0.at,x1.at,x2.at,⟨⟨hi1,hi2⟩,hi3,hi4⟩,R10.lt,x0.blt,x1.blt,x2.blt⟩
end
section
variable {V:Nat}
theorem vS{M P x j i:Nat}(hM:0<M)(hP:1<P)(hx:x=V%M)(hi:M*i%P=1)(hj:j=(V%P+P-x%P)%P*i%P):x+M*j=V%(M*P):=by
 have hjP:j<P:=by rw [hj];exact Nat.mod_lt _ om
 have hxM:x<M:=by rw [hx];exact Nat.mod_lt _ hM
 have hy:x+M*j<M*P:=by
  have:M*j+M≤M*P:=by rw [←Nat.mul_succ];exact Nat.mul_le_mul_left _ hjP
  omega
 obtain⟨a,ha⟩:∃a:Int,(V:Int)-(x+M*j:Nat)=M*a:=by
  refine⟨((V/M:Nat):Int)-j,?_⟩;have h1:=Nat.div_add_mod V M;rw [←hx] at h1;have h2:(V:Int)=M*(V/M:Nat)+x:=by rw [←Int.natCast_mul,←Int.natCast_add,h1]
  rw [h2,Int.natCast_add,Int.natCast_mul];grind
 have hxP:=Nat.mod_lt x (show 0<P by omega)
 have hcg:cg P (V:Int) (x+M*j:Nat):=by
  have e1:cg P (j:Int) (((V:Int)-x)*i):=by
   rw [hj];refine cg.mod.trans ?_;rw [Int.natCast_mul];refine cg.mul (cg.mod.trans ?_) cg.rfl';rw [show ((V%P+P-x%P:Nat):Int)=((V%P:Nat):Int)+P-((x%P:Nat):Int) by omega];exact ((cg.trans ⟨1,om⟩ (cg.mod (p:=P) (x:=V))).sub cg.mod)
  have e2:cg P ((M:Int)*i) 1:=by
   have:=(@cg.mod P (M*i)).symm;rw [hi] at this;simpa using this
  rw [Int.natCast_add,Int.natCast_mul];have e3:=(cg.rfl' (p:=P) (x:=(x:Int))).add ((cg.rfl' (p:=P) (x:=(M:Int))).mul e1);have e4:=(cg.rfl' (p:=P) (x:=(x:Int))).add (e2.mul (cg.rfl' (p:=P) (x:=(V:Int)-x)));exact ((e3.trans (cg.of (by grind))).trans (e4.trans (cg.of om))).symm
 obtain⟨b,hb⟩:=hcg
 obtain⟨q,hq⟩:∃q:Int,(M:Int)*i=1+P*q:=by
  refine⟨((M*i/P:Nat):Int),?_⟩;have h1:=Nat.div_add_mod (M*i) P;rw [hi] at h1;have h2:((M*i:Nat):Int)=((P*(M*i/P)+1:Nat):Int):=by rw [h1]
  rw [Int.natCast_mul,Int.natCast_add,Int.natCast_mul] at h2;rw [h2];simp;omega
 have hz:(V:Int)=(x+M*j:Nat)+(M*P:Nat)*(b*i-a*q):=by
  have h1:(V:Int)-(x+M*j:Nat)=P*b:=om;have h2:((V:Int)-(x+M*j:Nat))=((V:Int)-(x+M*j:Nat))*(M*i)-((V:Int)-(x+M*j:Nat))*(P*q):=by rw [hq];grind
  have h3:((V:Int)-(x+M*j:Nat))*(M*i)=P*b*(M*i):=by rw [h1]
  have h4:((V:Int)-(x+M*j:Nat))*(P*q)=M*a*(P*q):=by rw [ha]
  rw [h3,h4] at h2;rw [Int.natCast_mul];generalize ((x+M*j:Nat):Int)=y at*;grind
 have hfin:((V%(M*P):Nat):Int)=(x+M*j:Nat):=by
  rw [Int.natCast_emod,hz,Int.add_mul_emod_self_left,Int.emod_eq_of_lt om om]
 omega
theorem yX{a0 a1 b0 b1 l h s1 c2 s2 c3 s3 c4 A B:Nat}(h1:18446744073709551616*a1+a0=A)(h2:18446744073709551616*b1+b0=B)(h3:s1+18446744073709551616*c2=a0+l+0)(h4:s2+18446744073709551616*c3=a1+b0+0)(h5:s3+18446744073709551616*c4=s2+h+c2):
  s1+18446744073709551616*s3+18446744073709551616*18446744073709551616*(b1+c3+c4)=A+18446744073709551616*B+l+18446744073709551616*h:=by omega
theorem acj:QL+W64*QH=Q0*Q1:=by unfold QL QH Q0 Q1;decide
theorem q01:Q0*Q1<W64*W64:=by unfold Q0 Q1;decide
theorem aew:Q0*Q1*Q2<W64*W64*W64:=by unfold Q0 Q1 Q2;decide
theorem yz{w:TW}{c:Option Addr}{D:Nat}(h:Cr w c D)(hV:V<Q0*Q1*Q2):Ct Pg F.fO [.pointer c,.int .u64 (V%Q0:Nat),.int .u64 (V%Q1:Nat),.int .u64 (V%Q2:Nat)] w aa [.agg [.int .u64,.int .u64,.int .u64]] λ(r0 r1 r2:Int) _=>∃x0 x1 x2:Nat,r0=x0∧r1=x1∧r2=x2∧x0<W64∧x1<W64∧x2<W64∧x0+W64*x1+W64*W64*x2=V:=by
 refine Ct.fO ?_;unfold Sh.fO;intro w1 e1;obtain⟨b,b0,b1,b2,i01,i2,rfl,hR,M0,M1,M2,⟨⟨hi1,hi2⟩,hi3,hi4⟩,-⟩:=(h.here.ext e1);have hR:=hR.drew;have M1:=M1.drew;have M2:=M2.drew;have e1:=e1.drew;have p0:=uC;have p1:=uB;have p2:=uA;refine ah ⟨dcd,dcd,some ⟨b1,0,none⟩,(hR.cell 4).trans rfl,?_⟩;refine ah ⟨dcd,dcd,some ⟨b1,0,none⟩,(hR.cell 4).trans rfl,?_⟩;refine ah ⟨(i01:Nat),(hR.cell 6).trans rfl,?_⟩;refine c1 (rf M1) ?_;rintro r w2 e2 rfl;refine mJ (((hR.ext e2).cell 6).trans rfl) (((hR.ext e2).cell 4).trans rfl) ?_;refine c1 (iu (M1.ext e2)) ?_;rintro r w3 e3 rfl;have e23:=e2.trans e3;have hk:=vS (M:=Q0) (P:=Q1) (V:=V) (i:=i01) om om rfl hi2 rfl;rw [Nat.mod_mod];obtain⟨k,hkk⟩:∃k,(V%Q1+Q1-V%Q0%Q1)%Q1*i01%Q1=k:=⟨_,rfl⟩;rw [hkk] at hk ⊢
 have hkP:k<Q1:=by rw [←hkk];exact Nat.mod_lt _ om
 refine ah ⟨dcd,dcd,(Q0:Nat),((hR.ext e23).cell 0).trans rfl,?_⟩;have hkW:k<W64:=Nat.lt_trans hkP q_w.2.1;refine c2 (bits_Mul64 q_w.1 hkW) ?_;rintro hi lo w4 e4 ⟨rfl,rfl⟩;have m1:=Nat.div_add_mod (Q0*k) W64;have m2:=Nat.mod_lt (Q0*k) (show 0<W64 by decide);obtain⟨X,hX⟩:∃X,V%(Q0*Q1)=X:=⟨_,rfl⟩;have hXlt:X<Q0*Q1:=by rw [←hX];exact Nat.mod_lt _ (Nat.mul_pos om om)
 have hXW:=Nat.lt_trans hXlt q01;rw [hX] at hk;have hr0:=Nat.mod_lt V (show 0<Q0 by omega);have hr0W:=Nat.lt_trans hr0 q_w.1;obtain⟨r0,hr0e⟩:∃r0,V%Q0=r0:=⟨_,rfl⟩;rw [hr0e] at hk hr0W ⊢;generalize Q0*k/W64=hh at*;generalize Q0*k%W64=ll at*;refine jf (a:=ll) (b:=r0) (d:=0) rfl rfl rfl om m2 hr0W λl cc hl hc f1=>?_
 have hhl:W64*(hh+cc)+l=X:=by
  clear hi1 hi2 hi3 hi4 p0 p1 p2 hkk hkP hXlt hV;rw [w64] at *;omega
 have hhW:hh+cc<W64:=by
  clear hi1 hi2 hi3 hi4 p0 p1 p2 hkk hkP hXlt hV f1 m1 m2;rw [w64] at *;omega
 refine ai (y:=hh+cc) om hhW ?_;obtain⟨H,hH⟩:∃H,hh+cc=H:=⟨_,rfl⟩;rw [hH] at hhl hhW ⊢;have e24:=(e23.trans e4).drew;have R4:=hR.ext e24;refine ah ⟨dcd,dcd,some ⟨b2,0,none⟩,(R4.cell 5).trans rfl,?_⟩;refine ah ⟨dcd,dcd,some ⟨b2,0,none⟩,(R4.cell 5).trans rfl,?_⟩;refine ah ⟨dcd,dcd,some ⟨b2,0,none⟩,(R4.cell 5).trans rfl,?_⟩;have N2:=M2.ext e24;refine c1 (iu (b:=9223372036854775808) N2) ?_;rintro r w5 e5 rfl;refine mJ (((R4.ext e5).cell 5).trans rfl) (((R4.ext e5).cell 5).trans rfl) ?_;refine c1 (iu (b:=2) (N2.ext e5)) ?_;rintro r w6 e6 rfl;have e56:=e5.trans e6;refine kG (((R4.ext e56).cell 5).trans rfl) ?_;refine c1 (nC (N2.ext e56)) ?_;rintro r w7 e7 rfl;have e57:=(e56.trans e7).drew;have R7:=R4.ext e57
 have hxm:(H*9223372036854775808%Q2*2%Q2+l)%Q2=X%Q2:=by
  rw [←hhl,Nat.add_mod,Nat.mod_mod,Nat.mul_mod,Nat.mod_mod,←Nat.mul_mod,←Nat.add_mod];congr 2;show H*9223372036854775808*2=18446744073709551616*H;omega
 rw [hxm];refine ah ⟨dcd,dcd,some ⟨b2,0,none⟩,(R7.cell 5).trans rfl,?_⟩;refine ah ⟨dcd,dcd,some ⟨b2,0,none⟩,(R7.cell 5).trans rfl,?_⟩;refine ah ⟨(i2:Nat),(R7.cell 7).trans rfl,?_⟩;refine c1 (rf (N2.ext e57)) ?_;rintro r w8 e8 rfl;refine mJ (((R7.ext e8).cell 7).trans rfl) (((R7.ext e8).cell 5).trans rfl) ?_;refine c1 (iu ((N2.ext e57).ext e8)) ?_;rintro r w9 e9 rfl;have e89:=e8.trans e9;have R9:=R7.ext e89;have hi4':Q0*Q1*i2%Q2=1:=by rw [Nat.mul_mod,←Nat.mod_mod (Q0*Q1),←Nat.mul_mod];exact hi4
 have hj:=vS (M:=Q0*Q1) (P:=Q2) (V:=V) (i:=i2) (Nat.mul_pos om om) om rfl hi4' rfl;rw [Nat.mod_eq_of_lt hV,hX] at hj;rw [Nat.mod_mod,Nat.mod_mod];obtain⟨j,hje⟩:∃j,(V%Q2+Q2-X%Q2)%Q2*i2%Q2=j:=⟨_,rfl⟩;rw [hje] at hj ⊢;have hjW:j<W64:=by rw [←hje];exact Nat.lt_trans (Nat.mod_lt _ om) q_w.2.2
 refine ah ⟨(QL:Nat),(R9.cell 9).trans rfl,?_⟩;refine c2 (bits_Mul64 (by unfold QL;decide) hjW) ?_;rintro a1 a0 w10 e10 ⟨rfl,rfl⟩;refine ah ⟨(QH:Nat),((R9.ext e10).cell 8).trans rfl,?_⟩;refine c2 (bits_Mul64 (by unfold QH;decide) hjW) ?_;rintro b1' b0' w11 e11 ⟨rfl,rfl⟩;have hVW:=Nat.lt_trans hV aew;have m3:=Nat.div_add_mod (QL*j) W64;have m4:=Nat.mod_lt (QL*j) (show 0<W64 by decide);have m5:=Nat.div_add_mod (QH*j) W64;have m6:=Nat.mod_lt (QH*j) (show 0<W64 by decide);have m7:QL*j/W64<W64:=(Nat.div_lt_iff_lt_mul dcd).2 (Nat.mul_lt_mul'' (by unfold QL;decide) hjW);have hsum:QL*j+W64*(QH*j)=Q0*Q1*j:=by rw [←acj];grind
 generalize QL*j/W64=a1 at*;generalize QL*j%W64=a0 at*;generalize QH*j/W64=b1' at*;generalize QH*j%W64=b0' at*;clear hi1 hi2 hi3 hi4 hi4' p0 p1 p2 hkk hkP hXlt hV hX hXW hk hr0W hr0e m1 m2 f1 hc hH hxm hje hr0;intro w12 e12;refine jf (a:=a0) (b:=l) (d:=0) rfl rfl rfl om m4 hl λs1 cb hs1 hc2 g1=>?_
 intro w13 e13;refine jf (a:=a1) (b:=b0') (d:=0) rfl rfl rfl om m7 m6 λs2 c3 hs2 hc3 g2=>?_
 refine jf (a:=s2) (b:=H) rfl rfl rfl hc2 hs2 hhW λs3 c4 hs3 hc4 g3=>?_
 intro w14 e14;have tot:=yX m3 m5 g1 g2 g3
 have htot:s1+W64*s3+W64*W64*(b1'+c3+c4)=V:=by
  rw [w64] at*;rw [tot,←hj,←hhl,←hsum];clear tot hsum hhl hj m3 m5 g1 g2 g3 hVW;omega
 have hbW:b1'+c3+c4<W64:=by
  rw [←htot] at hVW;clear tot hsum hhl hj m3 m5 g1 g2 g3 htot;rw [w64] at*;omega
 refine ai (y:=b1'+c3) om om (ai (y:=b1'+c3+c4) om hbW ?_);intro w15 e15 w16 e16;exact⟨((s1:Int),(s3:Int),((b1'+c3+c4:Nat):Int),()),rfl,(((((((((e1.trans e24).trans e57).trans e89).trans e10).trans e11).trans e12).trans e13).trans e14).trans e15).trans e16,s1,s3,_,rfl,rfl,rfl,hs1,hs3,hbW,htot⟩
end
section
variable {w:TW} {s:Sl} {l:List (Nat × Nat × Nat)} {i:Int} {j:Nat} {e:TypeId}
def tf(t:Nat × Nat × Nat):List Value:=[U t.1,U t.2.1,U t.2.2]
def tv(t:Nat × Nat × Nat):Nat:=t.1+W64*t.2.1+W64*W64*t.2.2
def Tw(l:List (Nat × Nat × Nat)):Prop:=∀t∈l,t.1<W64∧t.2.1<W64∧t.2.2<W64
theorem lD:∀l:List (Nat × Nat × Nat),(l.flatMap tf).length=3*l.length
 | []=>rfl
 | t::l=>by rw [List.flatMap_cons,List.length_append,lD l];simp [tf];omega
theorem ze:∀{l:List (Nat × Nat × Nat)} {i:Nat} (h:i<l.length),(l.flatMap tf)[3*i]?=some (U l[i].1)∧(l.flatMap tf)[3*i+1]?=some (U l[i].2.1)∧(l.flatMap tf)[3*i+2]?=some (U l[i].2.2)
 | t::l,0,_=>⟨rfl,rfl,rfl⟩
 | t::l,i+1,h=>by
  have ih:=ze (l:=l) (i:=i) (by simpa using h)
  have e:∀k,((t::l).flatMap tf)[3*(i+1)+k]?=(l.flatMap tf)[3*i+k]?:=λk=>by
   rw [List.flatMap_cons,List.getElem?_append_right (by simp [tf];omega)];congr 1;simp [tf];omega
  exact⟨(e 0).trans ih.1,(e 1).trans ih.2.1,(e 2).trans ih.2.2⟩
theorem za(x y z:Nat):∀(l:List (Nat × Nat × Nat)) (i:Nat),(((l.flatMap tf).set (3*i) (U x)).set (3*i+1) (U y)).set (3*i+2) (U z)=(l.set i (x,y,z)).flatMap tf
 | [],_=>by simp
 | t::l,0=>by simp [tf]
 | t::l,i+1=>by
  have ih:=za x y z l i;have e:(t::l).flatMap tf=tf t++l.flatMap tf:=List.flatMap_cons ..;rw [e,List.set_cons_succ,List.flatMap_cons,←ih];rw [List.set_append_right _ _ (by simp [tf];omega),List.set_append_right _ _ (by simp [tf];omega),List.set_append_right _ _ (by simp [tf];omega)];rw [show (tf t).length=3 from rfl];congr 3<;>omega
theorem Rdv.len3(h:Rdv w 3 s (l.flatMap tf)):s.n=l.length:=by have:=h.1;rw [lD] at this;omega
theorem Rdv.at3{w':TW}(h:Rdv w 3 s (l.flatMap tf))(e:∀b,s.blk=some b→w'.w.heap[b]?=w.w.heap[b]?)(hi:i=j)(hj:j<l.length){K:Int→Int→Int→Prop}(hK:K (l[j].1:Nat) (l[j].2.1:Nat) (l[j].2.2:Nat)):
  ixa s i 3 λa=>ldc (.int .u64) w' (a.add 0) λx=>ldc (.int .u64) w' (a.add 1) λy=>ldc (.int .u64) w' (a.add 2) λz=>K x y z:=by
 subst hi;have hn:=h.len3;obtain⟨h1,h2,h3,h4⟩:=h;obtain⟨b,o,hp,hV,hc⟩:=h4 (λe=>by have:=congrArg List.length e;rw [lD] at this;simp at this;omega);obtain⟨g0,g1,g2⟩:=ze hj;have hb:=e b (by simp [Sl.blk,hp]);refine⟨⟨b,o,none⟩,hp,om,om,?_⟩;rw [eX];dsimp only;rw [eX,eX,eX];have k0:=hc _ _ g0;have k1:=hc _ _ g1;have k2:=hc _ _ g2;have cc:∀q,w'.w.cell? ⟨b,q,none⟩=w.w.cell? ⟨b,q,none⟩:=λq=>World.cell?_of_block hb
 have e0:o+(j:Int).toNat*3+0=o+3*j:=om;have e1:o+(j:Int).toNat*3+1=o+(3*j+1):=om;have e2:o+(j:Int).toNat*3+2=o+(3*j+2):=om;rw [e0,e1,e2];exact⟨_,(cc _).trans k0,_,(cc _).trans k1,_,(cc _).trans k2,hK⟩
theorem Own.put3{B:Nat}(h:Own w B e 3 s (l.flatMap tf))(hi:i=j)(hj:j<l.length){x y z:Nat}{K:TW→Prop}(hK:∀w',Own w' B e 3 s ((l.set j (x,y,z)).flatMap tf)→Ext (λc=>s.blk=some c) w w'→K w'):ixa s i 3 λa=>stc w a (.int .u64 (x:Int)) λw1=>stc w1 (a.add 1) (.int .u64 (y:Int)) λw2=>stc w2 (a.add 2) (.int .u64 (z:Int)) K:=by
 subst hi;have hl:=h.rdv.len3;rcases h.form with ⟨rfl,hv⟩|⟨b,cur,hp,_⟩
 ·simp at hl;omega
 ·refine⟨⟨b,0,none⟩,hp,om,om,?_⟩;rw [eX];dsimp only;rw [eX,eX,show 0+(j:Int).toNat*3=3*j by omega];refine h.put hp (by rw [lD];omega) _ λw1 h1 e1=>h1.put hp (by rw [List.length_set,lD];omega) _ λw2 h2 e2=>h2.put hp (by rw [List.length_set,List.length_set,lD];omega) _ λw3 h3 e3=>hK w3 ?_ ((e1.trans e2).trans e3)
  have:=za x y z l j;rw [←this];exact h3
theorem aeA{n:Int}{N:Nat}{K:Sl→TW→Prop}(hn:n=N)(hN:N≤1099511627776)(h:∀s w',Own w' w.w.heap.size e 3 s ((List.replicate N ((0,0,0):Nat × Nat × Nat)).flatMap tf)→s.n=N→Ext aa w w'→K s w'):mks w n n e 24 [.int .u64 0,.int .u64 0,.int .u64 0] K:=by
 subst hn;refine⟨om,Int.le_refl _,om,om,λb w' hnew=>h _ _ ⟨⟨by rw [lD];simp;omega,.inr ⟨b,N,(List.replicate N [Value.int .u64 0,Value.int .u64 0,Value.int .u64 0]).flatten.toArray,smp,by have:=hnew.at_;omega,by simpa using hnew.heap,Nat.le_refl _,by simp only [maxLen];omega,?_,?_⟩⟩,?_⟩ smp (hnew.ext _)⟩
 ·simp
 ·have e0:∀N:Nat,(List.replicate N [Value.int .u64 0,Value.int .u64 0,Value.int .u64 0]).flatten=(List.replicate N ((0,0,0):Nat × Nat × Nat)).flatMap tf:=by
   intro N;induction N with
   | zero=>rfl
   | succ N ih=>rw [List.replicate_succ,List.replicate_succ,List.flatten_cons,List.flatMap_cons,ih];rfl
  rw [Int.toNat_natCast,e0,List.toList_toArray,List.take_of_length_le (by rw [lD];simp;omega)]
 ·intro c hc hV;simp [Sl.blk] at hc;rw [hnew.V] at hV;have:=w.lt _ hV;have:=hnew.at_;omega
theorem adV{t:Nat × Nat × Nat}(h:t.1<W64∧t.2.1<W64∧t.2.2<W64):tv t<W64^3:=by
 obtain⟨h1,h2,h3⟩:=h;unfold tv;rw [show W64^3=18446744073709551616*18446744073709551616*18446744073709551616 by decide];rw [w64] at*;omega
theorem vX{T:List (Nat × Nat × Nat)}(hT:Tw T):∀i,i≤T.length→vl W64 ((T.take i).map tv)<W64^(i+3)
 | 0,_=>by rw [List.take_zero,List.map_nil,gw];exact Nat.pow_pos dcd
 | i+1,hi=>by
  have ih:=vX hT i om
  have hti:(T.map tv).getD i 0<W64^3:=by
   have:(T.map tv).getD i 0=tv T[i]:=by simp [show i<T.length by omega]
   rw [this];exact adV (hT _ (List.getElem_mem _))
  rw [List.map_take,aj,←List.map_take];have h1:W64^i*(T.map tv).getD i 0≤W64^i*(W64^3-1):=Nat.mul_le_mul_left _ om;have h2:W64^i*(W64^3-1)+W64^i=W64^(i+3):=by rw [Nat.pow_add,Nat.mul_sub,Nat.mul_one];have:W64^i≤W64^i*W64^3:=Nat.le_mul_of_pos_right _ dcd;omega
  have h3:W64^(i+1+3)=W64*W64^(i+3):=by rw [show i+1+3=i+3+1 by omega,Nat.pow_succ,Nat.mul_comm]
  have h4:2*W64^(i+3)≤W64*W64^(i+3):=Nat.mul_le_mul_right _ dcd;omega
set_option maxHeartbeats 400000 in
theorem conv_Carry{T:List (Nat × Nat × Nat)}(hs:Rdv w 3 s (T.flatMap tf))(hT:Tw T)(hn:T.length≤1048576):Ct Pg F.ju [s.v] w aa [.one .slice] λ(r:Sl) w'=>On w' w.w.heap.size r (vl W64 (T.map tv)):=by
 refine Ct.ju ?_;unfold Sh.ju;have sn:=hs.len3;have hs:=hs.here
 have sblk:∀b,s.blk=some b→T≠[]→b<w.w.heap.size∧¬w.V b:=by
  intro b hb hne;have hne':T.flatMap tf≠[]:=λh=>by have:=congrArg List.length h;rw [lD] at this;exact hne (List.length_eq_zero_iff.1 (by have h2:3*T.length=0:=this;omega))
  obtain⟨b',o,hp,hV,hc⟩:=hs.2.2.2 hne';have:b=b':=by simp [Sl.blk,hp] at hb;exact hb.symm
  subst this;obtain⟨v,hv⟩:∃v,(T.flatMap tf)[0]?=some v:=⟨_,List.getElem?_eq_getElem (List.length_pos_iff.2 hne')⟩;exact⟨World.block_lt_of_cell? w.here.w _ (hc 0 v hv),hV⟩
 refine ab om om (bW (N:=T.length+4) om om λo w1 ho _ e1 _=>?_);have ho:Ow w1 w.w.heap.size o _:=ho;refine j0 (λw'=>∃P,Ow w' w.w.heap.size o P∧vl W64 P=vl W64 (T.map tv)∧P.length=T.length+4∧Ext aa w.here w') ?_ ?_
 ·refine lp1 (λm (i:Int) w'=>∃(j:Nat) (P:List Nat),i=j∧m=T.length-j∧j≤T.length∧P.length=T.length+4∧Ow w' w.w.heap.size o P∧vl W64 P=vl W64 ((T.take j).map tv)∧Ext aa w.here w') T.length ⟨0,_,rfl,rfl,om,smp,ho,by rw [jP];simp [gw],e1⟩ ?_;clear ho e1;rintro m i w2 ⟨j,P,rfl,rfl,hj,hP,ho,hv,e2⟩;refine ac (λhc=>?_) (λhc=>?_)
  ·have hj1:j<T.length:=om;have hne:T≠[]:=λh=>by subst h;simp at hj1
   refine hs.at3 (w':=w2) (λb hb=>?_) rfl hj1 ?_
   ·obtain⟨k1,k2⟩:=sblk b hb hne;exact e2.block b k1 (λh=>h) (.inl k1)
   have htw:=hT _ (List.getElem_mem hj1);obtain⟨t,ht⟩:∃t,T[j]=t:=⟨_,rfl⟩;have hstep:=aj W64 (T.map tv) j;rw [show (T.map tv).getD j 0=tv T[j] by simp [hj1],←List.map_take,←List.map_take] at hstep;have htot:=vX hT (j+1) hj1;rw [ht] at htw hstep ⊢;obtain⟨x0,x1,x2⟩:=t;obtain⟨hx0,hx1,hx2⟩:=htw;intro b w3 hn3;have R3:Rw w3 b [U 0,U 0,U 0]:=⟨⟨_,hn3.heap⟩,λhV=>by rw [hn3.V] at hV;have:=w2.lt _ hV;have:=hn3.at_;omega⟩;have e3:Ext aa w2 w3:=hn3.ext _;have hob:∀c,o.blk=some c→c≠b:=λc hc=>by have:=(ho.from_ c hc).2;have:=hn3.at_;omega
   have hbw:w.w.heap.size≤b:=by rw [hn3.at_];exact e2.size
   refine R3.put (j:=0) rfl smp (U x0) λw4 R4 e4=>?_
   refine R4.put (j:=1) rfl smp (U x1) λw5 R5 e5=>?_
   refine R5.put (j:=2) rfl smp (U x2) λw6 R6 e6=>?_
   have R6:Rw w6 b [U x0,U x1,U x2]:=R6;have e36:=(e4.trans e5).trans e6;have e6':Ext aa w.here w6:=(e2.trans e3).mine e36 λc hc=>by subst hc;exact hbw
   have ho6:=(ho.ext e3).extX e36 λc hc=>hob c hc
   clear e4 e5 e6 R3 R4 R5 e36 ho e2 e3;have hlv:tv (x0,x1,x2)=vl W64 [x0,x1,x2]:=by simp [tv,vl];grind
   rw [hlv] at hstep
   have hx:∀p,[x0,x1,x2].getD p 0<18446744073709551616:=λp=>by
    match p with
    | 0=>exact hx0
    | 1=>exact hx1
    | 2=>exact hx2
    | p+3=>simp
   refine j0 (λw'=>∃P:List Nat,P.length=T.length+4∧vl W64 P=vl W64 ((T.take (j+1)).map tv)∧Ow w' w.w.heap.size o P∧Ext aa w.here w') ?_ ?_
   ·refine lp2 (λm (c i:Int) w7=>∃(p d:Nat) (P:List Nat),c=d∧i=p∧m=T.length+4-p∧d≤1∧P.length=T.length+4∧vl W64 P+W64^(j+p)*d=vl W64 ((T.take j).map tv)+W64^j*vl W64 ([x0,x1,x2].take p)∧Ow w7 w.w.heap.size o P∧Rw w7 b [U x0,U x1,U x2]∧Ext aa w.here w7) (T.length+4) ⟨0,0,P,rfl,rfl,rfl,om,hP,by simp [gw,hv],ho6,R6,e6'⟩ ?_;clear ho6 R6 e6' hv hP P;rintro m c i w7 ⟨p,d,P,rfl,rfl,rfl,hd,hP,hv,ho,R7,e7⟩;refine j1 (λ(r:Bool) w'=>w'=w7∧r=decide (p<3∨0<d)) ?_ ?_
    ·refine ac (λh1=>⟨rfl,(decide_eq_true (.inl om)).symm⟩) (λh1=>⟨rfl,?_⟩);rw [Bool.eq_iff_iff,decide_eq_true_iff,decide_eq_true_iff];omega
    rintro r w8 ⟨rfl,rfl⟩;refine ac (λh1=>?_) (λh1=>?_)
    ·have hp:j+p<T.length+4:=by
      rcases Nat.lt_or_ge p 3 with h|h
      ·omega
      ·have hd1:d=1:=om;subst hd1;rw [List.take_of_length_le (l:=[x0,x1,x2]) (by simpa using h),←hstep] at hv;have:j+p<j+1+3:=(Nat.pow_lt_pow_iff_right (a:=W64) dcd).1 om;omega
     refine j1 (λ(y:Int) w'=>w'=w8∧y=([x0,x1,x2].getD p 0:Nat)) ?_ ?_
     ·refine ac (λh2=>?_) (λh2=>⟨rfl,?_⟩)
      ·have h2:p<3:=om;refine⟨om,om,?_⟩;rw [Int.toNat_natCast,Nat.mul_one,Addr.add_mk,Nat.zero_add]
       have hcell:w8.w.cell? ⟨b,p,none⟩=some (U ([x0,x1,x2].getD p 0)):=by
        rw [R7.cell];have:p=0∨p=1∨p=2:=om;rcases this with rfl|rfl|rfl<;>rfl
       exact⟨_,hcell,rfl,rfl⟩
      ·have:[x0,x1,x2].length≤p:=by simp;omega
       rw [show [x0,x1,x2].getD p 0=0 by rw [List.getD_eq_getElem?_getD,List.getElem?_eq_none this];rfl];rfl
     rintro y w9 ⟨rfl,rfl⟩;have hy:=hx p;have hgo:=aj W64 [x0,x1,x2] p;generalize [x0,x1,x2].getD p 0=y at*;have hV1:=ho.rd.lt (j+p);refine ab om om (ab om om (ho.rd.ix (j:=j+p) om om ?_));have hset:=lu (b:=W64) (l:=P) (k:=j+p) om;rw [show P[j+p]=P.getD (j+p) 0 by simp [show j+p<P.length by omega]] at hset;generalize P.getD (j+p) 0=V at*;refine jf (a:=V) (b:=y) rfl rfl rfl hd hV1 hy λs1 c1 hs1 hc1 f1=>?_
     refine ho.store (j:=j+p) om om hs1 rfl λw10 ho10 e10=>?_
     refine ab om om ⟨T.length+4-(p+1),om,p+1,c1,_,rfl,om,rfl,hc1,by simp [hP],?_,ho10,R7.extX e10 λh'=>?_,e7.own e10 ho.blk_le⟩
     ·have hs':=hset s1;rw [hgo,←Nat.add_assoc,Nat.pow_succ];have e1:W64^(j+p)=W64^j*W64^p:=Nat.pow_add _ _ _;have e2:W64^(j+p)*s1+W64^(j+p)*W64*c1=W64^(j+p)*(V+y+d):=by rw [←f1];grind
      grind
     ·exact hob b h' rfl
    ·have hd0:d=0:=om;subst hd0;refine⟨P,hP,?_,ho,e7⟩;rw [List.take_of_length_le (l:=[x0,x1,x2]) (by simp;omega),←hstep] at hv;simpa using hv
   rintro w7 ⟨P,hP,hv,ho,e7⟩;exact ab om om ⟨T.length-(j+1),om,j+1,P,om,rfl,hj1,hP,ho,hv,e7⟩
  ·have:j=T.length:=om;subst this;rw [List.take_of_length_le (Nat.le_refl _)] at hv;exact⟨P,ho,hv,hP,e2⟩
 rintro w2 ⟨P,ho,hv,hP,e2⟩;refine c1 (limb_Norm (x:=vl W64 P) ho.rd.nt (by have:=df ho.sm;omega)) ?_;intro r w3 e3 h3;rw [hv] at h3;exact rt1 (c:=.slice) _ (e2.trans e3) (h3.less e2.size).at
end
section
variable {w:TW} {n:Nat}
theorem conv_may{m:Nat}:Ct Pg F.ku [.int .i64 n,.int .i64 m] w aa [.one .bool] λ(r:Bool) _=>r=decide (0<n∧0<m∧n+m≤1048576):=by
 refine Ct.ku ?_;unfold Sh.ku;refine j1 (λ(r:Bool) w'=>r=decide (0<n∧0<m∧n+m≤1048576)∧w'=w.here) ?_ ?_
 ·refine ac (λh1=>?_) (λh1=>⟨(decide_eq_false om).symm,rfl⟩);refine ac (λh2=>?_) (λh2=>⟨(decide_eq_false om).symm,rfl⟩);refine ac (λh3=>?_) (λh3=>⟨(decide_eq_false om).symm,rfl⟩);refine ab om om ⟨?_,rfl⟩;rw [Bool.eq_iff_iff,decide_eq_true_iff,decide_eq_true_iff];omega
 rintro r w1 ⟨rfl,rfl⟩;exact rt1 (c:=.bool) _ (Ext.refl _ _) rfl
theorem conv_log(h2:2≤n)(hn:n≤1048576):Ct Pg F.jA [.int .i64 n] w aa [.one (.int .i64)] λ(r:Int) _=>∃L:Nat,r=((L+1:Nat):Int)∧L+1=bl (n-1)∧L+1≤20∧n≤2^(L+1):=by
 refine Ct.jA ?_;unfold Sh.jA;refine ag (y:=((n-1:Nat):Int)) (by rw [ar om om];omega) (ai (y:=n-1) rfl (by rw [w64];omega) ?_);refine c1 (bits_Len64 (by rw [w64];omega)) ?_;rintro r w1 e1 rfl;have h1:=nO (x:=n-1) om;have h3:=fr (n-1);have h4:bl (n-1)≤20:=aY om;obtain⟨L,hL⟩:∃L,bl (n-1)=L+1:=⟨bl (n-1)-1,om⟩;rw [hL] at h3 h4 ⊢;exact rt1 (c:=.int .i64) _ e1 ⟨L,rfl,rfl,h4,om⟩
structure CJ (one:Value) (t D0 n sz:Nat) (V:Nat→Nat) (St:TW→Prop):Prop where
 here:∀{w:TW},St w→St w.here
 ext:∀{w w':TW} {X:Nat→Prop},St w→Ext X w w'→(∀c,X c→D0≤c)→St w'
 extT:∀{w w':TW},St w→Tz w t→Xt1 t w w'→St w'
 call:∀{w:TW} {tp:Option Addr} {p L x back part D:Nat} {m now deep:Int} {tab:List Int},Pln w tp t p L x back part D→D≤w.w.heap.size→sz≤2^(L+1)→Tn w t m now deep tab→St w→∀{K:Sl→Bool→TW→Prop},
  (∀s w' A m',Xt1 t w w'→Ow w' w.w.heap.size s A→A.length=n→(∀i,i<n→A.getD i 0=V i%p)→Tn w' t m' now deep tab→K s true w')→clv Pg one [.pointer tp] w [.one .slice,.one .bool] K
theorem tp0:TP Q0:=.inl rfl
theorem tp1:TP Q1:=.inr (.inl rfl)
theorem tp2:TP Q2:=.inr (.inr rfl)
set_option maxHeartbeats 1000000 in
theorem conv_joined{one:Value}{t D0 sz:Nat}{V:Nat→Nat}{St:TW→Prop}{m now deep:Int}{tab:List Int}(hJ:CJ one t D0 n sz V St)(hS:St w)(hD:D0≤w.w.heap.size)(hG:Gl w)(hT:Tn w t m now deep tab)(hn0:0<n)(hn:n≤1048576)(h2:2≤sz)(hsz:sz≤1048576)(hV:∀i,i<n→V i<Q0*Q1*Q2):
  Ct Pg F.iX [.pointer (some ⟨t,0,none⟩),.int .i64 n,.int .i64 sz,one] w (λk=>k=t) [.one .slice,.one .bool] λ(s:Sl)(ok:Bool) w'=>ok=true∧∃Ts m',Own w' w.w.heap.size T.iJ 3 s (Ts.flatMap tf)∧Ts.length=n∧Tw Ts∧(∀i (h:i<Ts.length),tv Ts[i]=V i)∧Tn w' t m' now deep tab:=by
 refine Ct.iX ?_;unfold Sh.iX;refine c1 conv_begun ?_;intro c w1 e1 hC;have hC:Cr w1 c w1.w.heap.size:=hC;intro b w2 hn2;have e2:Ext aa w1 w2:=hn2.ext _;have hb1:w1.w.heap.size=b:=hn2.at_.symm;have hbw:w.w.heap.size≤b:=by rw [←hb1];exact e1.size
 have R2:Rw w2 b [Sl.nil.v,Sl.nil.v,Sl.nil.v]:=⟨⟨_,hn2.heap⟩,λhV=>by rw [hn2.V] at hV;have:=w1.lt _ hV;omega⟩;have C2:Cr w2 c b:=by rw [←hb1];exact hC.ext e2
 have G0:=hG.here;have T0:=hT.here;have S0:=hJ.here hS;have htb:t<b:=Nat.lt_of_lt_of_le hT.lt hbw;have e12:Ext aa w.here w2:=e1.trans e2;obtain⟨Inv,hInv⟩:∃Inv:TW→Prop,Inv=λv=>Cr v c b∧Gl v∧(∃m',Tn v t m' now deep tab)∧St v∧Xt1 t w.here v∧b<v.w.heap.size:=⟨_,rfl⟩
 have I2:Inv w2:=by rw [hInv];exact⟨C2,G0.ext e12,⟨_,T0.ext e12⟩,hJ.ext S0 e12 λ_ h=>h.elim,e12.any,R2.lt⟩
 have IE:∀{v v':TW},Inv v→Ext aa v v'→Inv v':=λh e=>by
  rw [hInv] at *;obtain⟨a1,a2,⟨m',a3⟩,a4,a5,a6⟩:=h;exact⟨a1.ext e,a2.ext e,⟨_,a3.ext e⟩,hJ.ext a4 e λ_ h=>h.elim,a5.trans e.any,Nat.lt_of_lt_of_le a6 e.size⟩
 have IX:∀{v v':TW} {X:Nat→Prop},Inv v→Ext X v v'→(∀k,X k→b≤k)→Inv v':=λh e hX=>by
  rw [hInv] at *;obtain⟨a1,a2,⟨m',a3⟩,a4,a5,a6⟩:=h;have hg:G.iw<b:=by have:=hG.lt;omega
  exact⟨a1.extD e hX,a2.extX e λh'=>by have:=hX _ h';omega,⟨_,a3.extX e λh'=>by have:=hX _ h';omega⟩,hJ.ext a4 e λk hk=>by have:=hX k hk;omega,Ext.mineT a5 e λk hk=>.inr (by have:=hX k hk;exact Nat.le_trans hbw this),Nat.lt_of_lt_of_le a6 e.size⟩
 have IT:∀{v v':TW} {m':Int},Inv v→Xt1 t v v'→Tn v' t m' now deep tab→Inv v':=λh e hT'=>by
  rw [hInv] at *;obtain⟨a1,a2,⟨m',a3⟩,a4,a5,a6⟩:=h;exact⟨a1.extT a3.tz e,a2.extT a3.tz e,⟨_,hT'⟩,hJ.extT a4 a3.tz e,a5.trans e,Nat.lt_of_lt_of_le a6 e.size⟩
 have step:∀(j q:Nat) (w3:TW) (vs:List Sl),j<3→TP q→Inv w3→Rw w3 b (vs.map Sl.v)→vs.length=3→(∀v,Cr v c b→∃bc,c=some ⟨bc,0,none⟩∧v.w.cell? ⟨bc,j,none⟩=some (U q))→∀{K:Int→TW→Prop} {R1 R2:TW→Prop},
   (∀w8 s A,Inv w8→Rw w8 b ((vs.set j s).map Sl.v)→Rd w8 s A→(∀k,s.blk=some k→b<k)→(∀i,i<n→A.getD i 0=V i%q)→A.length=n→(∀s' A',Rd w3 s' A'→(∀k,s'.blk=some k→k≠b)→Rd w8 s' A')→K ((j+1:Nat):Int) w8)→
   nck c λa=>ixp a (j:Int) 3 1 λa1=>ldc (.int .u64) w3.drew a1 λ(v:Int)=>cl Pg F.jA [.int .i64 sz] w3.drew [.one (.int .i64)] λ(r:Int) w4=>hld w4 [(a1,.int .u64 v)] <|
    cl Pg F.kE [.pointer (some ⟨t,0,none⟩),.int .u64 v,.int .i64 r] w4 [.one .ptr,.one (.int .i64)] λ(p1:Option Addr)(r1:Int) w5=>cond ((r1:Int) != 0) (R1 w5) (clv Pg one [.pointer p1] w5 [.one .slice,.one .bool] λ(s:Sl)(ok:Bool) w6=>cond (!ok) (R2 w6) (ixp ⟨b,0,none⟩ (j:Int) 3 1 λa2=>stc w6 a2 s.v λw7=>bnd (wi ((j:Int)+1)) λn1=>K n1 w7)):=by
  intro j q w3 vs hj hq I3 R3 hl hcell K R1 R2 hK;have IE3:=I3;rw [hInv] at IE3;obtain⟨C3,G3,⟨m3,T3⟩,S3,X3,B3⟩:=IE3;have d3:=(Ext.refl aa w3).drew;have adj:∀k:Nat,((⟨k,0,none⟩:Addr).add ((j:Int).toNat*1))=⟨k,j,none⟩:=λk=>by rw [Int.toNat_natCast,Nat.mul_one,Addr.add_mk,Nat.zero_add]
  obtain⟨bc,hc,-⟩:=hcell w3 C3;rw [hc]
  have cell:∀v,Cr v c b→v.w.cell? ⟨bc,j,none⟩=some (U q):=λv hv=>by
   obtain⟨bc',h1,h2⟩:=hcell v hv;rw [hc] at h1;have:bc=bc':=by simpa using h1
   rw [this];exact h2
  refine ah ⟨om,om,?_⟩;rw [adj];refine⟨(q:Nat),cell _ (C3.ext d3),?_⟩;refine c1 (conv_log h2 hsz) ?_;rintro r w4 e4 ⟨L,rfl,-,hL,hsL⟩;have e34:=d3.trans e4;refine kG (cell _ (C3.ext e34)) ?_;refine c2 (ntt_New (G3.ext e34) (T3.ext e34) hq hL) ?_;rintro tp er w5 e5 ⟨rfl,x,back,part,hP⟩;have hP:Pln w5 tp t q L x back part w5.w.heap.size:=hP;refine ap dcd ?_;have e35:=e34.trans e5;have I5:=IE I3 e35;have I5':=I5;rw [hInv] at I5';obtain⟨C5,G5,⟨m5,T5⟩,S5,X5,B5⟩:=I5';refine hJ.call hP (Nat.le_refl _) hsL T5 S5 λs w6 A m6 e6 hA hAl hAk T6=>?_
  refine ap rfl ⟨om,om,?_⟩;rw [adj];have I6:=IT I5 e6 T6;have R5:=R3.ext e35
  have R6:Rw w6 b (vs.map Sl.v):=by
   match vs,hl with
   | [v0,v1,v2],_=>exact Rw.extT (v:=v0.v) R5 T5.tz smp e6
  have hsb:∀k,s.blk=some k→b<k:=λk hk=>by have:=(hA.from_ k hk).1;omega
  refine R6.put (j:=j) rfl (by simp;omega) s.v λw7 R7 e7=>?_
  refine ag (y:=((j+1:Nat):Int)) (by rw [ar om om];omega) ?_;refine hK w7 s A (IX I6 e7 λk hk=>om) (by rw [List.map_set];exact R7) (hA.rd.extX e7 λk hk h'=>by have:=hsb k hk;omega) hsb hAk hAl λs' A' hs' hne=>?_
  exact ((hs'.ext e35).extT T5.tz e6).extX e7 λk hk h'=>hne k hk h'
 refine j0 (λw'=>∃s0 s1 s2 A0 A1 A2,Inv w'∧Rw w' b [s0.v,s1.v,s2.v]∧(Rd w' s0 A0∧Rd w' s1 A1∧Rd w' s2 A2)∧(A0.length=n∧A1.length=n∧A2.length=n)∧∀i,i<n→A0.getD i 0=V i%Q0∧A1.getD i 0=V i%Q1∧A2.getD i 0=V i%Q2) ?_ ?_
 ·have cc:∀v,Cr v c b→∃bc,c=some ⟨bc,0,none⟩∧v.w.cell? ⟨bc,0,none⟩=some (U Q0)∧v.w.cell? ⟨bc,1,none⟩=some (U Q1)∧v.w.cell? ⟨bc,2,none⟩=some (U Q2):=λv hv=>by
   obtain⟨bc,b0,b1,b2,i01,i2,h1,hR,_⟩:=hv;exact⟨bc,h1,(hR.cell 0).trans rfl,(hR.cell 1).trans rfl,(hR.cell 2).trans rfl⟩
  refine lp1 (λm (i:Int) w'=>∃j:Nat,i=j∧m=3-j∧j≤3∧Inv w'∧(j=0→Rw w' b [Sl.nil.v,Sl.nil.v,Sl.nil.v])∧
   (j=1→∃s0 A0,Rw w' b [s0.v,Sl.nil.v,Sl.nil.v]∧Rd w' s0 A0∧(∀k,s0.blk=some k→k≠b)∧A0.length=n∧∀i,i<n→A0.getD i 0=V i%Q0)∧
   (j=2→∃s0 A0 s1 A1,Rw w' b [s0.v,s1.v,Sl.nil.v]∧(Rd w' s0 A0∧Rd w' s1 A1)∧((∀k,s0.blk=some k→k≠b)∧(∀k,s1.blk=some k→k≠b))∧(A0.length=n∧A1.length=n)∧∀i,i<n→A0.getD i 0=V i%Q0∧A1.getD i 0=V i%Q1)∧
   (j=3→∃s0 s1 s2 A0 A1 A2,Rw w' b [s0.v,s1.v,s2.v]∧(Rd w' s0 A0∧Rd w' s1 A1∧Rd w' s2 A2)∧(A0.length=n∧A1.length=n∧A2.length=n)∧∀i,i<n→A0.getD i 0=V i%Q0∧A1.getD i 0=V i%Q1∧A2.getD i 0=V i%Q2)) 3 ⟨0,rfl,rfl,om,I2,λ_=>R2,λh=>(by cases h),λh=>(by cases h),λh=>(by cases h)⟩ ?_
  rintro m i w3 ⟨j,rfl,rfl,hj,I3,h0,h1,h2,h3⟩;refine ac (λhc=>?_) (λhc=>?_)
  ·have:j=0∨j=1∨j=2:=om;rcases this with rfl|rfl|rfl
   ·refine step 0 Q0 w3 [Sl.nil,Sl.nil,Sl.nil] dcd tp0 I3 (h0 rfl) rfl (λv hv=>by obtain⟨bc,k1,k2,k3,k4⟩:=cc v hv;exact⟨bc,k1,k2⟩) λw8 s A I8 R8 hA hb hAk hAl _=>?_
    exact⟨2,dcd,1,rfl,rfl,dcd,I8,λh=>(by cases h),λ_=>⟨s,A,R8,hA,λk hk=>by have:=hb k hk;omega,hAl,hAk⟩,λh=>(by cases h),λh=>(by cases h)⟩
   ·obtain⟨s0,A0,R3,hA0,hb0,hl0,hk0⟩:=h1 rfl;refine step 1 Q1 w3 [s0,Sl.nil,Sl.nil] dcd tp1 I3 R3 rfl (λv hv=>by obtain⟨bc,k1,k2,k3,k4⟩:=cc v hv;exact⟨bc,k1,k3⟩) λw8 s A I8 R8 hA hb hAk hAl hold=>?_
    exact⟨1,dcd,2,rfl,rfl,dcd,I8,λh=>(by cases h),λh=>(by cases h),λ_=>⟨s0,A0,s,A,R8,⟨hold _ _ hA0 hb0,hA⟩,⟨hb0,λk hk=>by have:=hb k hk;omega⟩,⟨hl0,hAl⟩,λi hi=>⟨hk0 i hi,hAk i hi⟩⟩,λh=>(by cases h)⟩
   ·obtain⟨s0,A0,s1,A1,R3,⟨hA0,hA1⟩,⟨hb0,hb1⟩,⟨hl0,hl1⟩,hk0⟩:=h2 rfl;refine step 2 Q2 w3 [s0,s1,Sl.nil] dcd tp2 I3 R3 rfl (λv hv=>by obtain⟨bc,k1,k2,k3,k4⟩:=cc v hv;exact⟨bc,k1,k4⟩) λw8 s A I8 R8 hA hb hAk hAl hold=>?_
    exact⟨0,dcd,3,rfl,rfl,dcd,I8,λh=>(by cases h),λh=>(by cases h),λh=>(by cases h),λ_=>⟨s0,s1,s,A0,A1,A,R8,⟨hold _ _ hA0 hb0,hold _ _ hA1 hb1,hA⟩,⟨hl0,hl1,hAl⟩,λi hi=>⟨(hk0 i hi).1,(hk0 i hi).2,hAk i hi⟩⟩⟩
  ·obtain⟨s0,s1,s2,A0,A1,A2,hR,h⟩:=h3 om;exact⟨s0,s1,s2,A0,A1,A2,I3,hR,h⟩
 clear step IX;rintro w3 ⟨s0,s1,s2,A0,A1,A2,I3,R3,⟨hA0,hA1,hA2⟩,⟨hl0,hl1,hl2⟩,hk⟩;refine c1 (conv_log h2 hsz) ?_;rintro r w4 e4 ⟨L,rfl,-,hL,hsL⟩;have I4:=IE I3 e4;refine ai (y:=L+1) rfl (by rw [w64];omega) ?_;have hp2:(2:Nat)^(L+1)≤2^20:=Nat.pow_le_pow_right dcd hL;refine⟨om,?_⟩;have I4':=I4;rw [hInv] at I4';obtain⟨C4,G4,⟨m4,T4⟩,S4,X4,B4⟩:=I4';refine gW (jw T4) (λc hc=>by subst hc;exact T4.V) ?_;intro r w5 e5 hpost;obtain⟨-,T5⟩:=hpost;have I5:=IT I4 e5 T5;have A05:=(hA0.ext e4).extT T4.tz e5;have A15:=(hA1.ext e4).extT T4.tz e5;have A25:=(hA2.ext e4).extT T4.tz e5;have R5:Rw w5 b [s0.v,s1.v,s2.v]:=Rw.extT (R3.ext e4) T4.tz smp e5;refine aeA (N:=n) rfl om λo w6 ho on e6=>?_
 have I6:=IE I5 e6;have bOf:∀{s:Sl} {A:List Nat},Rd w5 s A→A.length=n→∀k,s.blk=some k→k<w5.w.heap.size:=λh hl k hk=>h.lt_blk (λh'=>by rw [h'] at hl;simp at hl;omega) k hk
 have oB:∀{v:TW} {l:List (Nat × Nat × Nat)},Own v w5.w.heap.size T.iJ 3 o (l.flatMap tf)→∀k,o.blk=some k→w5.w.heap.size≤k:=λh k hk=>(h.from_ k hk).1
 have I6':=I6;rw [hInv] at I6';obtain⟨C6,G6,⟨m6,T6⟩,S6,X6,B6⟩:=I6';have B5:b<w5.w.heap.size:=R5.lt;refine j0 (λw'=>∃Ts,Own w' w5.w.heap.size T.iJ 3 o (Ts.flatMap tf)∧Ts.length=n∧Tw Ts∧(∀i (h:i<Ts.length),tv Ts[i]=V i)∧Ext (λk=>o.blk=some k) w6 w') ?_ ?_
 ·refine lp1 (λm (i:Int) w'=>∃(j:Nat) (Ts:List (Nat × Nat × Nat)),i=j∧m=n-j∧j≤n∧Own w' w5.w.heap.size T.iJ 3 o (Ts.flatMap tf)∧Ts.length=n∧Tw Ts∧(∀i (h:i<Ts.length),i<j→tv Ts[i]=V i)∧Ext (λk=>o.blk=some k) w6 w') n ⟨0,_,rfl,rfl,om,ho,smp,λt ht=>by rw [List.eq_of_mem_replicate ht];decide,λi h h'=>by omega,Ext.refl _ _⟩ ?_;rintro m i w7 ⟨j,Ts,rfl,rfl,hj,ho7,hTl,hTw,hTv,e7⟩;refine ac (λhc=>?_) (λhc=>?_)
  ·have hj1:j<n:=om;have on7:=oB ho7;have R7:Rw w7 b [s0.v,s1.v,s2.v]:=(R5.ext e6).extX e7 λh'=>by have:=on7 b h';omega
   have rd7:∀{s:Sl} {A:List Nat},Rd w5 s A→A.length=n→Rd w7 s A:=λh hl=>(h.ext e6).extX e7 λk hk h'=>by have:=on7 k h';have:=bOf h hl k hk;omega
   have C7:Cr w7 c b:=C6.extD e7 λk hk=>by have:=on7 k hk;omega
   have cell:∀{v:TW},Ext aa w7 v→v.w.cell? ⟨b,0,none⟩=some s0.v∧v.w.cell? ⟨b,1,none⟩=some s1.v∧v.w.cell? ⟨b,2,none⟩=some s2.v:=λe=>⟨((R7.ext e).cell 0).trans rfl,((R7.ext e).cell 1).trans rfl,((R7.ext e).cell 2).trans rfl⟩
   have d7:=(Ext.refl aa w7).drew;obtain⟨k0,k1,k2⟩:=hk j hj1;refine⟨dcd,dcd,s0,(cell d7).1,(rd7 A05 hl0).drew.ix rfl om ?_⟩;refine⟨dcd,dcd,s1,(cell d7).2.1,(rd7 A15 hl1).drew.ix rfl om ?_⟩;refine⟨dcd,dcd,s2,(cell d7).2.2,(rd7 A25 hl2).drew.ix rfl om ?_⟩;rw [k0,k1,k2];refine cl0 (yz (C7.ext d7) (hV j hj1)) ?_;intro r0 r1 r2 w8 e8 hpost;obtain⟨x0,x1,x2,rfl,rfl,rfl,hx0,hx1,hx2,hx⟩:∃x0 x1 x2:Nat,r0=x0∧r1=x1∧r2=x2∧x0<W64∧x1<W64∧x2<W64∧x0+W64*x1+W64*W64*x2=V j:=hpost;have d8:=d7.trans e8;refine⟨λy hy=>?_,?_⟩
   ·have hc8:=cell d8;simp only [List.mem_cons,List.not_mem_nil,or_false] at hy;rcases hy with rfl|rfl|rfl
    ·exact hc8.2.2
    ·exact hc8.2.1
    ·exact hc8.1
   have ho8:Own w8 w5.w.heap.size T.iJ 3 o (Ts.flatMap tf):=ho7.ext d8 λ_ _ h=>h
   refine ho8.put3 (x:=x0) (y:=x1) (z:=x2) rfl om λw9 ho9 e9=>?_
   refine ab om om ⟨n-(j+1),om,j+1,_,om,rfl,om,ho9,by simp [hTl],λt ht=>?_,λi h h'=>?_,(e7.trans d8.any).trans e9⟩
   ·rcases List.mem_or_eq_of_mem_set ht with h|h
    ·exact hTw t h
    ·rw [h];exact⟨hx0,hx1,hx2⟩
   ·rw [List.getElem_set];split
    ·rename_i hij;subst hij;exact hx
    ·exact hTv i (by simpa using h) om
  ·have:j=n:=om;subst this;exact⟨Ts,ho7,hTl,hTw,λi h=>hTv i h om,e7⟩
 rintro w7 ⟨Ts,ho7,hTl,hTw,hTv,e7⟩;have on7:=oB ho7;have T7:=T6.extX e7 λh'=>by have:=on7 t h';omega
 have e17:Xt1 t w.here w7:=Ext.mineT X6 e7 λk hk=>.inr (by have:=on7 k hk;exact Nat.le_trans hbw om)
 refine rt2 (c:=.slice) (d:=.bool) _ _ e17 ⟨rfl,Ts,m6,?_,hTl,hTw,hTv,T7.at⟩;exact Own.at (ho7.less (by have:=X6.size;have h3:w.w.heap.size≤w5.w.heap.size:=Nat.le_trans hbw om;exact h3))
end
section
variable {w:TW} {t:Nat} {a b:Sl} {la lb:List Nat} {deep m now:Int} {tab:List Int}
theorem conv_Words_1{tp:Option Addr}{p L x back part D b1 b2:Nat}(hP:Pln w tp t p L x back part D)(hD:D≤w.w.heap.size)(hT:Tn w t m now deep tab)(h1:Rw w b1 [a.v])(h2:Rw w b2 [b.v])(ha:Rd w a la)(hb:Rd w b lb)(hl0:la≠[])(hm0:lb≠[])(hlm:la.length+lb.length≤2^(L+1)+1):
  Ct Pg F.gh [.pointer tp,.pointer (some ⟨b1,0,none⟩),.pointer (some ⟨b2,0,none⟩)] w (λk=>k=t) [.one .slice,.one .bool] λ(s:Sl)(ok:Bool) w'=>ok=true∧∃A' m',Ow w' w.w.heap.size s A'∧A'.length=la.length+lb.length-1∧(∀i,i<la.length+lb.length-1→A'.getD i 0=cv la lb i%p)∧Tn w' t m' now deep tab:=by
 refine Ct.gh ?_;unfold Sh.gh;refine⟨a,(h1.here.cell 0).trans rfl,b,(h2.here.cell 0).trans rfl,?_⟩;refine t2 hT.here.tz (aaY hP.here hD hT.here ha.here hb.here hl0 hm0 hlm) ?_;rintro s ok w1 e1 ⟨rfl,A,m',g1,g2,g3,g4⟩;exact rt2 (c:=.slice) (d:=.bool) _ _ e1 ⟨rfl,A,m',g1.at,g2,g3,g4.at⟩
theorem aby(ha:Sm W64 la)(hb:Sm W64 lb)(h:la.length≤1048576)(i:Nat):cv la lb i<Q0*Q1*Q2:=by
 refine Nat.lt_of_le_of_lt (yx ha hb dcd i) (Nat.lt_of_le_of_lt (Nat.mul_le_mul_right _ h) ?_);unfold Q0 Q1 Q2;decide
theorem conv_Words(hG:Gl w)(hT:Tn w t m now deep tab)(ha:Rd w a la)(hb:Rd w b lb):
  Ct Pg F.iM [.pointer (some ⟨t,0,none⟩),a.v,b.v] w (λk=>k=t) [.one .slice,.one .bool] λ(s:Sl)(ok:Bool) w'=>ok=decide (0<la.length∧0<lb.length∧la.length+lb.length≤1048576)∧(ok=false→s=Sl.nil)∧(ok=true→∃Ts,Own w' w.w.heap.size T.iJ 3 s (Ts.flatMap tf)∧Ts.length=la.length+lb.length-1∧Tw Ts∧∀i (h:i<Ts.length),tv Ts[i]=cv la lb i)∧∃m',Tn w' t m' now deep tab:=by
 refine Ct.iM ?_;unfold Sh.iM;have na:=ha.len;have nb:=hb.len;have ca:=ha.cap;have cb:=hb.cap;intro b1 w1 hn1 b2 w2 hn2;have e1:Ext aa w.here w1:=hn1.ext _;have e2:Ext aa w1 w2:=hn2.ext _;have R1:Rw w1 b1 [a.v]:=⟨⟨_,hn1.heap⟩,λhV=>by rw [hn1.V] at hV;have:=w.here.lt _ hV;have:=hn1.at_;omega⟩;have R2:Rw w2 b2 [b.v]:=⟨⟨_,hn2.heap⟩,λhV=>by rw [hn2.V] at hV;have:=w1.lt _ hV;have:=hn2.at_;omega⟩;have R1:=R1.ext e2;have e:=e1.trans e2;have A2:=ha.here.ext e;have B2:=hb.here.ext e;have T2:=hT.here.ext e;refine⟨a,(R1.cell 0).trans rfl,b,(R2.cell 0).trans rfl,?_⟩;refine c1 conv_may ?_;rintro r w3 e3 rfl;rw [na,nb];have R1:=R1.ext e3;have R2:=R2.ext e3;have A3:=A2.ext e3;have B3:=B2.ext e3;have T3:=T2.ext e3;have e:=e.trans e3;by_cases hc:0<la.length∧0<lb.length∧la.length+lb.length≤1048576
 ·rw [decide_eq_true hc];refine ap rfl ?_;refine⟨a,(R1.cell 0).trans rfl,b,(R2.cell 0).trans rfl,?_⟩;refine ag (y:=((la.length+lb.length:Nat):Int)) (by rw [ar om om];omega) (ag (y:=((la.length+lb.length-1:Nat):Int)) (by rw [ar om om];omega) ?_);refine⟨a,(R1.cell 0).trans rfl,b,(R2.cell 0).trans rfl,?_⟩;refine ag (y:=((la.length+lb.length:Nat):Int)) (by rw [ar om om];omega) ?_;have hl0:la≠[]:=List.length_pos_iff.1 hc.1;have hm0:lb≠[]:=List.length_pos_iff.1 hc.2.1
  have hJ:CJ (.func (.func F.gh) [].toArray [.pointer (some ⟨b1,0,none⟩),.pointer (some ⟨b2,0,none⟩)].toArray) t w3.w.heap.size (la.length+lb.length-1) (la.length+lb.length) (cv la lb) (λv=>Rw v b1 [a.v]∧Rw v b2 [b.v]∧Rd v a la∧Rd v b lb):=by
   refine⟨λh=>⟨h.1.here,h.2.1.here,h.2.2.1.here,h.2.2.2.here⟩,λh x hX=>?_,λh hz x=>⟨Rw.extT h.1 hz smp x,Rw.extT h.2.1 hz smp x,h.2.2.1.extT hz x,h.2.2.2.extT hz x⟩,?_⟩
   ·have l1:=R1.lt;have l2:=R2.lt;refine⟨h.1.extX x λh'=>?_,h.2.1.extX x λh'=>?_,h.2.2.1.extX x λc hc' h'=>?_,h.2.2.2.extX x λc hc' h'=>?_⟩
    ·have:=hX _ h';omega
    ·have:=hX _ h';omega
    ·have:=hX _ h';have:=A3.lt_blk hl0 c hc';omega
    ·have:=hX _ h';have:=B3.lt_blk hm0 c hc';omega
   ·intro w4 tp p L x back part D m4 now4 deep4 tab4 hP hD hsz hT4 hS K hK;refine aar krf (t2 hT4.tz (conv_Words_1 hP hD hT4 hS.1 hS.2.1 hS.2.2.1 hS.2.2.2 hl0 hm0 om) ?_);rintro s ok w5 e5 ⟨rfl,A,m',g1,g2,g3,g4⟩;exact hK s w5 A m' e5 g1 g2 g3 g4
  refine t2 T3.tz (conv_joined hJ ⟨R1,R2,A3,B3⟩ (Nat.le_refl _) (hG.here.ext e) T3 om om om om λi _=>aby ha.sm hb.sm om i) ?_;rintro s ok w4 e4 ⟨rfl,Ts,m',g1,g2,g3,g4,g5⟩;exact rt2 (c:=.slice) (d:=.bool) _ _ (e.any.trans e4) ⟨rfl,λh=>(by cases h),λ_=>⟨Ts,Own.at (g1.less e.size),g2,g3,g4⟩,m',g5.at⟩
 ·rw [decide_eq_false hc];refine aQ rfl ?_;exact rt2 (c:=.slice) (d:=.bool) Sl.nil false e.any ⟨rfl,λ_=>rfl,λh=>(by cases h),_,T3.at⟩
theorem conv_Mul(hG:Gl w)(hT:Tn w t m now deep tab)(ha:Rd w a la)(hb:Rd w b lb):
  Ct Pg F.kv [.pointer (some ⟨t,0,none⟩),a.v,b.v] w (λk=>k=t) [.one .slice,.one .bool] λ(s:Sl)(ok:Bool) w'=>(ok=true→On w' w.w.heap.size s (vl W64 la*vl W64 lb))∧∃m',Tn w' t m' now deep tab:=by
 refine Ct.kv ?_;unfold Sh.kv;refine t2 hT.here.tz (conv_Words hG.here hT.here ha.here hb.here) ?_;rintro s ok w1 e1 ⟨hok,hnil,hrow,m',hT1⟩;cases ok with
 | false=>exact aQ rfl (rt2 (c:=.slice) (d:=.bool) Sl.nil false e1 ⟨λh=>(by cases h),m',hT1.at⟩)
 | true=>
  refine ap rfl ?_;obtain⟨Ts,g1,g2,g3,g4⟩:=hrow rfl;have hc:=of_decide_eq_true hok.symm;refine c1 (conv_Carry g1.rdv g3 om) ?_;intro r w2 e2 h2;refine rt2 (c:=.slice) (d:=.bool) _ _ (e1.trans e2.any) ⟨λ_=>?_,m',(hT1.ext e2).at⟩
  have hv:vl W64 (Ts.map tv)=vl W64 la*vl W64 lb:=by
   rw [xK W64 _ (la.length+lb.length-1) (by simp;omega),←vR W64 lb (List.length_pos_iff.1 hc.2.1) la (la.length+lb.length-1) om];refine fK λi hi=>?_
   have:(Ts.map tv).getD i 0=cv la lb i:=by
    have hi':i<Ts.length:=om;rw [←g4 i hi'];simp [hi']
   rw [this]
  rw [hv] at h2;exact (h2.less e1.size).at
end
end Go.Proofs.YtpbimnlggalnfaaGreatDoor.Zg
