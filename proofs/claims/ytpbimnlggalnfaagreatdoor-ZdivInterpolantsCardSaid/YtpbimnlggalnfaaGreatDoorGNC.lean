/- A part of the proofs of this seat's laws. -/
import Derived.Test.YtpbimnlggalnfaaGreatDoorGA
import Derived.Test.YtpbimnlggalnfaaGreatDoorGMA
import Derived.Test.YtpbimnlggalnfaaGreatDoorGMB
import Derived.Test.YtpbimnlggalnfaaGreatDoorGMD
import Derived.Test.YtpbimnlggalnfaaGreatDoorGME
import Derived.Test.YtpbimnlggalnfaaGreatDoorGKA
import Derived.Test.YtpbimnlggalnfaaGreatDoorGKE
import Derived.Test.YtpbimnlggalnfaaGreatDoorGIA
import Derived.Test.YtpbimnlggalnfaaGreatDoorGKC
import Derived.Test.YtpbimnlggalnfaaGreatDoorGB
import Derived.Test.YtpbimnlggalnfaaGreatDoorGIB
import Derived.Test.YtpbimnlggalnfaaGreatDoorGJA
import Derived.Test.YtpbimnlggalnfaaGreatDoorGJB
import Derived.Test.YtpbimnlggalnfaaGreatDoorGHA
import Derived.Test.YtpbimnlggalnfaaGreatDoorGHD
import Derived.Test.YtpbimnlggalnfaaGreatDoorGK
import Derived.Test.YtpbimnlggalnfaaGreatDoorGQ
import Derived.Test.YtpbimnlggalnfaaGreatDoorGMC
import Derived.Test.YtpbimnlggalnfaaGreatDoorGNA
import Derived.Test.YtpbimnlggalnfaaGreatDoorGNB
import Derived.Test.YtpbimnlggalnfaaGreatDoorGP
import Derived.Test.YtpbimnlggalnfaaGreatDoorGP1
import Derived.Test.YtpbimnlggalnfaaGreatDoorGP2
import Derived.Test.YtpbimnlggalnfaaGreatDoorGP3
import Derived.Test.YtpbimnlggalnfaaGreatDoorGP4
import Derived.Test.YtpbimnlggalnfaaGreatDoorGP5
import Derived.Test.YtpbimnlggalnfaaGreatDoorGP6
import Derived.Test.YtpbimnlggalnfaaGreatDoorGS
import Derived.Test.YtpbimnlggalnfaaGreatDoorGC
set_option linter.unusedVariables false
set_option linter.unusedSimpArgs false
set_option linter.unnecessarySimpa false
namespace Go.Proofs.YtpbimnlggalnfaaGreatDoor.Zg
open Go.RowKit
section
section
variable {w w':TW} {p np:Option Addr} {q mo hg g po nu ra ro dv rc c m d k e t:Nat} {now:Int} {tab:List Int}
theorem sQ{s u:Sl}{n:Nat}(hs:s.n=n)(hu:u.n=m){K:Bool→TW→Prop}(hK:K (decide (n=0∨m=0)) w):Jn [.bool] (λJ0=>cond (((s.n:Int):Int) == 0) (J0 true w) (J0 (((u.n:Int):Int) == 0) w)) K:=by
 subst hs;subst hu;refine j1 (λ(x:Bool) w3=>x=decide (s.n=0∨u.n=0)∧w3=w) ?_ ?_
 ·refine aW (λh=>⟨?_,rfl⟩) (λh=>⟨?_,rfl⟩)
  ·symm;rw [decide_eq_true_iff];left;simp at h;omega
  ·have h:¬s.n=0:=λh'=>by rw [h'] at h;simp at h
   rw [Bool.eq_iff_iff,decide_eq_true_iff];constructor
   ·intro h';right;simp at h';omega
   ·rintro (h'|h')
    ·exact absurd h' h
    ·simp;omega
 rintro x w3 ⟨rfl,rfl⟩;exact hK
end
end
section
variable {a b l:List Int} {i j:Nat} {x:Int}
theorem Eg.down11{w:TW}{p:Option Addr}{b1 b2 b3 b4 b5 b6 b7 b8 b9 b10 b11 t:Nat}{bs:List Nat}{now:Int}{tab:List Int}(h:Eg w p (b1::b2::b3::b4::b5::b6::b7::b8::b9::b10::b11::bs) t now tab){K:Addr→Option Addr→Addr→Option Addr→Addr→Option Addr→Addr→Option Addr→Addr→Option Addr→Addr→Option Addr→Addr→Option Addr→Addr→Option Addr→Addr→Option Addr→Addr→Option Addr→Addr→Option Addr→Prop}(hK:∀a1 q1 a2 q2 a3 q3 a4 q4 a5 q5 a6 q6 a7 q7 a8 q8 a9 q9 a10 q10 a11 q11,Eg w q11 bs t now tab→HcC w t [(a11,.pointer q11),(a10,.pointer q10),(a9,.pointer q9),(a8,.pointer q8),(a7,.pointer q7),(a6,.pointer q6),(a5,.pointer q5),(a4,.pointer q4),(a3,.pointer q3),(a2,.pointer q2),(a1,.pointer q1)]→K a1 q1 a2 q2 a3 q3 a4 q4 a5 q5 a6 q6 a7 q7 a8 q8 a9 q9 a10 q10 a11 q11):nck p λa1=>ldc (.ptr) w a1 λ(q1:Option Addr)=>nck q1 λa2=>ldc (.ptr) w a2 λ(q2:Option Addr)=>nck q2 λa3=>ldc (.ptr) w a3 λ(q3:Option Addr)=>nck q3 λa4=>ldc (.ptr) w a4 λ(q4:Option Addr)=>nck q4 λa5=>ldc (.ptr) w a5 λ(q5:Option Addr)=>nck q5 λa6=>ldc (.ptr) w a6 λ(q6:Option Addr)=>nck q6 λa7=>ldc (.ptr) w a7 λ(q7:Option Addr)=>nck q7 λa8=>ldc (.ptr) w a8 λ(q8:Option Addr)=>nck q8 λa9=>ldc (.ptr) w a9 λ(q9:Option Addr)=>nck q9 λa10=>ldc (.ptr) w a10 λ(q10:Option Addr)=>nck q10 λa11=>ldc (.ptr) w a11 λ(q11:Option Addr)=>K a1 q1 a2 q2 a3 q3 a4 q4 a5 q5 a6 q6 a7 q7 a8 q8 a9 q9 a10 q10 a11 q11:=
 h.downC λq1 E1 h1 n1=>E1.downC λq2 E2 h2 n2=>E2.downC λq3 E3 h3 n3=>E3.downC λq4 E4 h4 n4=>E4.downC λq5 E5 h5 n5=>E5.downC λq6 E6 h6 n6=>E6.downC λq7 E7 h7 n7=>E7.downC λq8 E8 h8 n8=>E8.downC λq9 E9 h9 n9=>E9.downC λq10 E10 h10 n10=>E10.downC λq11 E11 h11 n11=>hK _ q1 _ q2 _ q3 _ q4 _ q5 _ q6 _ q7 _ q8 _ q9 _ q10 _ q11 E11 (.cons h11 n11 (.cons h10 n10 (.cons h9 n9 (.cons h8 n8 (.cons h7 n7 (.cons h6 n6 (.cons h5 n5 (.cons h4 n4 (.cons h3 n3 (.cons h2 n2 (.cons h1 n1 (.nil _))))))))))))
def czi(a b:List Int)(i k:Nat):Int:=Sg (min i (k+1)) λu=>a.getD u 0*b.getD (k-u) 0
theorem tO(a b:List Int)(k:Nat):czi a b 0 k=0:=by
 unfold czi;rw [Nat.zero_min,Sg]
theorem yI(a b:List Int)(i k:Nat):czi a b (i+1) k=czi a b i k+if i≤k then a.getD i 0*b.getD (k-i) 0 else 0:=by
 unfold czi;split
 ·rename_i h;rw [show min (i+1) (k+1)=i+1 by omega,show min i (k+1)=i by omega,Sg]
 ·rename_i h;rw [show min (i+1) (k+1)=k+1 by omega,show min i (k+1)=k+1 by omega,Int.add_zero]
theorem Sg.tail{f:Nat→Int}{n:Nat}(h:∀u,n≤u→f u=0):∀{m:Nat},n≤m→Sg m f=Sg n f
 | 0,hm=>by rw [show n=0 by omega]
 | m+1,hm=>by
  rcases Nat.lt_or_ge m n with h1|h1
  ·rw [show n=m+1 by omega]
  ·rw [Sg,h m h1,Int.add_zero,Sg.tail h h1]
theorem gx(h:l.length≤i):l.getD i 0=0:=by
 rw [List.getD_eq_getElem?_getD,List.getElem?_eq_none h];rfl
theorem ku(hj:j<l.length)(i:Nat):(l.set j x).getD i 0=if i=j then x else l.getD i 0:=by
 simp only [List.getD_eq_getElem?_getD,List.getElem?_set];by_cases h:i=j
 ·subst h;simp [hj]
 ·rw [if_neg (λh'=>h h'.symm),if_neg h]
theorem rU(N k:Nat):(List.replicate N (0:Int)).getD k 0=0:=by
 rw [List.getD_eq_getElem?_getD,List.getElem?_replicate];split<;>rfl
theorem vr(a b:List Int)(k:Nat):czi a b a.length k=(pm a b).getD k 0:=by
 rw [ou];unfold czi;rcases Nat.le_total a.length (k+1) with h|h
 ·rw [Nat.min_eq_left h];exact (Sg.tail (λu hu=>by rw [gx hu,Int.zero_mul]) h).symm
 ·rw [Nat.min_eq_right h]
theorem Sg.abs{f:Nat→Int}{c:Nat}:∀{n:Nat},(∀k,k<n→(f k).natAbs≤c)→(Sg n f).natAbs≤n*c
 | 0,_=>by simp [Sg]
 | n+1,h=>by
  rw [Sg,Nat.add_mul,Nat.one_mul];have h1:=Sg.abs (n:=n) λk hk=>h k om
  have h2:=h n om;omega
def mid(a b:List Int)(i j k:Nat):Int:=czi a b i k+if i≤k∧k-i<j then a.getD i 0*b.getD (k-i) 0 else 0
theorem th(a b:List Int)(i k:Nat):mid a b i 0 k=czi a b i k:=by
 unfold mid;rw [if_neg om,Int.add_zero]
theorem vg(a b:List Int)(hj:b.length≤j)(k:Nat):mid a b i j k=czi a b (i+1) k:=by
 unfold mid;rw [yI];congr 1;by_cases h2:i≤k
 ·rw [if_pos h2];by_cases h3:k-i<j
  ·rw [if_pos ⟨h2,h3⟩]
  ·rw [if_neg om,gx (l:=b) om,Int.mul_zero]
 ·rw [if_neg h2,if_neg om]
theorem ti(a b:List Int)(i j k:Nat):mid a b i (j+1) k=if k=i+j then mid a b i j k+a.getD i 0*b.getD j 0 else mid a b i j k:=by
 unfold mid;by_cases h:k=i+j
 ·subst h;rw [if_pos om,if_pos rfl,if_neg om,Int.add_zero,Nat.add_sub_cancel_left]
 ·rw [if_neg h];congr 1;by_cases h2:i≤k∧k-i<j
  ·rw [if_pos h2,if_pos om]
  ·rw [if_neg h2,if_neg om]
def Sht(a b:List Int):Prop:=a.length≤65536∧b.length≤65536∧hgt a+hgt b≤1000000
theorem Sht.mul(h:Sht a b)(i j:Nat):(a.getD i 0*b.getD j 0).natAbs≤2^(hgt a+hgt b):=by
 rw [Int.natAbs_mul,Nat.pow_add];exact Nat.mul_le_mul (Nat.le_trans (qt a i) (Nat.sub_le _ _)) (Nat.le_trans (qt b j) (Nat.sub_le _ _))
theorem Sht.mid(h:Sht a b)(hi:i<a.length)(j k:Nat):sz (mid a b i j k).natAbs≤1048576:=by
 have h1:(czi a b i k).natAbs≤65536*2^(hgt a+hgt b):=by
  refine Nat.le_trans (Sg.abs λu _=>h.mul u (k-u)) (Nat.mul_le_mul_right _ ?_);have:=h.1;omega
 have h2:(if i≤k∧k-i<j then a.getD i 0*b.getD (k-i) 0 else 0).natAbs≤2^(hgt a+hgt b):=by
  split
  ·exact h.mul _ _
  ·simp
 have h3:(Go.Proofs.YtpbimnlggalnfaaGreatDoor.Zg.mid a b i j k).natAbs<2^(hgt a+hgt b+17):=by
  unfold Go.Proofs.YtpbimnlggalnfaaGreatDoor.Zg.mid;rw [Nat.pow_add 2 (hgt a+hgt b) 17];have h0:=Nat.two_pow_pos (hgt a+hgt b);generalize 2^(hgt a+hgt b)=z at*;have e:(2:Nat)^17=131072:=dcd;rw [e];omega
 have h4:=kZ h3;have:=h.2.2;omega
theorem Sht.one(h:Sht a b)(i:Nat):sz (a.getD i 0).natAbs≤1048576∧sz (b.getD i 0).natAbs≤1048576:=by
 have h1:=h.2.2;have h2:=kZ (mg (qu (l:=a) i));have h3:=kZ (mg (qu (l:=b) i));omega
theorem Sht.trim(h:Sht a b):Sht (ag a) (ag b):=by
 obtain⟨h1,h2,h3⟩:=h;have k1:=au a;have k2:=au b;exact⟨om,om,by rw [gw,gw];exact h3⟩
theorem uY(h:∀k,l.getD k 0=(pm a b).getD k 0):ag l=pmt a b:=
 (Nm.trim _).ext (lJ _ _) λi=>by rw [cC,jr,h i]
theorem nz{a b:List Int}(h:(ag a).length=0∨(ag b).length=0):pmt a b=[]:=by
 rw [←sJ];rcases h with h|h
 ·rw [List.length_eq_zero_iff.1 h];rfl
 ·rw [xU,List.length_eq_zero_iff.1 h];rfl
theorem Oq.extT{D:Nat→List Nat}{w w':TW}{B t:Nat}{e:TypeId}{s:Sl}{zs:List Int}(h:Oq D w B e s zs)(hT:Tz w t)(he:e≠T.ey)(x:Xt1 t w w'):Oq D w' B e s zs:=by
 obtain⟨ts,h1,h2,h3⟩:=h;exact⟨ts,h1.extT hT he x,h2,λi hi=>⟨⟨(h3 i hi).1.1.extT hT x,(h3 i hi).1.2⟩,λhn c hc=>⟨((h3 i hi).2 hn c hc).1,Nat.lt_of_lt_of_le ((h3 i hi).2 hn c hc).2 x.size⟩⟩⟩
theorem Rq.extT{D:Nat→List Nat}{w w':TW}{t:Nat}{s:Sl}{zs:List Int}(h:Rq D w s zs)(hT:Tz w t)(e:Xt1 t w w'):Rq D w' s zs:=by
 obtain⟨ts,g1,g2,g3⟩:=h;exact⟨ts,g1.extT (qs ts) hT e,g2,λi hi=>⟨(g3 i hi).1.extT hT e,(g3 i hi).2⟩⟩
theorem Oq.ixT{D:Nat→List Nat}{w:TW}{B t:Nat}{e:TypeId}{s:Sl}{zs:List Int}(h:Oq D w B e s zs)(hT:Tz w t)(he:e≠T.ey){i:Int}(hi:i=j)(hj:j<zs.length){K:Addr→Sl→Bool→Prop}(hK:∀a u b,El D w (u,b) (zs.getD j 0)→HcC w t [(a.add 0,u.v),(a.add 1,.bool b)]→K a u b):
  ixa s i 2 λa=>ldc (.slice) w (a.add 0) λ(v:Sl)=>ldc (.bool) w (a.add 1) λ(v1:Bool)=>K a v v1:=by
 obtain⟨ts,g1,g2,g3⟩:=h;have hj':j<ts.length:=om;subst hi;have hn:=g1.neT hT he;obtain⟨h1,h2,h3,h4⟩:=g1.rdv;rw [fT] at h1;obtain⟨b,o,hp,hV,hc⟩:=h4 (λe=>by have:=congrArg List.length e;rw [fT] at this;simp at this;omega);obtain⟨q0,q1⟩:=oF hj';refine⟨⟨b,o,none⟩,hp,om,om,?_⟩;rw [fW];have e:o+(j:Int).toNat*2=o+2*j:=om;rw [e];have k0:w.w.cell? ((⟨b,o+2*j,none⟩:Addr).add 0)=some ts[j].1.v:=by rw [fW];exact hc _ _ q0
 have k1:w.w.cell? ((⟨b,o+2*j,none⟩:Addr).add 1)=some (.bool ts[j].2):=by rw [fW];exact hc _ _ q1
 have hb:b≠t:=λh'=>hn (by simp [Sl.blk,hp,h'])
 exact⟨_,k0,_,k1,hK _ _ _ (g3 j hj').1 (.cons ⟨k0,by rw [fW];exact hV⟩ (by rw [fW];exact hb) (.cons ⟨k1,by rw [fW];exact hV⟩ (by rw [fW];exact hb) (.nil _)))⟩
def Of(D:Nat→List Nat)(w:TW)(B:Nat)(e:TypeId)(s:Sl)(zs:List Int):Prop:=∃ts:List (Sl × Bool),Own w B e 2 s (ts.flatMap iv)∧ts.length=zs.length∧∀i (h:i<ts.length),El D w ts[i] (zs.getD i 0)∧(D (zs.getD i 0).natAbs≠[]→∀c,ts[i].1.blk=some c→B≤c∧s.blk≠some c∧c<w.w.heap.size)
section
variable {D:Nat→List Nat} {w w':TW} {B t:Nat} {e:TypeId} {s:Sl} {zs:List Int}
theorem Of.oq(h:Of D w B e s zs):Oq D w B e s zs:=by
 obtain⟨ts,h1,h2,h3⟩:=h;exact⟨ts,h1,h2,λi hi=>⟨(h3 i hi).1,λhn c hc=>((h3 i hi).2 hn c hc).2⟩⟩
theorem Of.rq(h:Of D w B e s zs):Rq D w s zs:=h.oq.rq
theorem Of.lt_blk(h:Of D w B e s zs):∀c,s.blk=some c→B≤c∧c<w.w.heap.size:=h.oq.lt_blk
theorem Of.ext(h:Of D w B e s zs)(x:Ext aa w w'):Of D w' B e s zs:=by
 obtain⟨ts,h1,h2,h3⟩:=h;exact⟨ts,h1.ext x λ_ _ h=>h,h2,λi hi=>⟨(h3 i hi).1.ext x,λhn c hc=>⟨((h3 i hi).2 hn c hc).1,((h3 i hi).2 hn c hc).2.1,Nat.lt_of_lt_of_le ((h3 i hi).2 hn c hc).2.2 x.size⟩⟩⟩
theorem Of.extT(h:Of D w B e s zs)(hT:Tz w t)(he:e≠T.ey)(x:Xt1 t w w'):Of D w' B e s zs:=by
 obtain⟨ts,h1,h2,h3⟩:=h;exact⟨ts,h1.extT hT he x,h2,λi hi=>⟨⟨(h3 i hi).1.1.extT hT x,(h3 i hi).1.2⟩,λhn c hc=>⟨((h3 i hi).2 hn c hc).1,((h3 i hi).2 hn c hc).2.1,Nat.lt_of_lt_of_le ((h3 i hi).2 hn c hc).2.2 x.size⟩⟩⟩
theorem Of.less{B':Nat}(h:Of D w B e s zs)(hB:B'≤B):Of D w B' e s zs:=by
 obtain⟨ts,h1,h2,h3⟩:=h;exact⟨ts,h1.less hB,h2,λi hi=>⟨(h3 i hi).1,λhn c hc=>⟨Nat.le_trans hB ((h3 i hi).2 hn c hc).1,((h3 i hi).2 hn c hc).2⟩⟩⟩
theorem Of.at{k:Nat}(h:Of D w B e s zs):Of D (w.at k) B e s zs:=by
 obtain⟨ts,h1,h2,h3⟩:=h;exact⟨ts,h1.at,h2,λi hi=>⟨⟨Rd.at_ (h3 i hi).1.1,(h3 i hi).1.2⟩,(h3 i hi).2⟩⟩
theorem Of.nil(D:Nat→List Nat)(w:TW)(B:Nat)(e:TypeId):Of D w B e Sl.nil []:=⟨[],Own.nil2 w B e,rfl,λi hi=>by simp at hi⟩
theorem Of.cut(h:Of D w B e s zs){n:Nat}(hn:n≤zs.length):Of D w B e (s.cut 0 n 2) (zs.take n):=by
 obtain⟨ts,h1,h2,h3⟩:=h;refine⟨ts.take n,h1.cut2 om,by simp [h2],λi hi=>?_⟩;simp only [List.length_take] at hi
 have e1:(zs.take n).getD i 0=zs.getD i 0:=by
  simp only [List.getD_eq_getElem?_getD,List.getElem?_take];rw [if_pos om]
 have e2:(s.cut 0 n 2).blk=s.blk:=by simp only [Sl.blk,lk]
 rw [e1,e2,List.getElem_take];exact h3 i om
theorem abB(hD:D 0=[]){n:Int}{N:Nat}{K:Sl→TW→Prop}(hn:n=N)(hN:N≤1099511627776)(h:∀s w',Of D w' w.w.heap.size e s (List.replicate N 0)→Ext aa w w'→K s w'):mks w n n e 32 [.slice none 0 0,.bool false] K:=
 yh hn hN λs w' h' _ e' _=>h s w' ⟨_,h',smp,λi hi=>by
  rw [rU];simp only [List.getElem_replicate];refine⟨⟨?_,rfl⟩,λhne=>absurd hD hne⟩;show Rd w' Sl.nil (D 0);rw [hD];exact Rd.nil _⟩ e'
theorem Of.set{x:Sl}{y:Bool}{z:Int}(h:Of D w B e s zs){i:Int}(hi:i=j)(hj:j<zs.length)(hz:El D w (x,y) z)(hb:D z.natAbs≠[]→∀c,x.blk=some c→B≤c∧s.blk≠some c∧c<w.w.heap.size){K:TW→Prop}(hK:∀w',Of D w' B e s (zs.set j z)→Ext (λc=>s.blk=some c) w w'→K w'):ixa s i 2 λa=>stc w a x.v λw1=>stc w1 (a.add 1) (.bool y) K:=by
 obtain⟨ts,g1,g2,g3⟩:=h;refine g1.put2 hi om λw' h' x'=>hK w' ⟨ts.set j (x,y),h',by simp [g2],λi hi=>?_⟩ x'
 simp only [List.length_set] at hi
 have key:∀(t:Sl × Bool) (q:Int),El D w t q→(D q.natAbs≠[]→∀c,t.1.blk=some c→B≤c∧s.blk≠some c∧c<w.w.heap.size)→El D w' t q∧(D q.natAbs≠[]→∀c,t.1.blk=some c→B≤c∧s.blk≠some c∧c<w'.w.heap.size):=λt q k1 k2=>
  ⟨⟨k1.1.extN x' λhne c hc=>(k2 hne c hc).2.1,k1.2⟩,λhne c hc=>⟨(k2 hne c hc).1,(k2 hne c hc).2.1,Nat.lt_of_lt_of_le (k2 hne c hc).2.2 x'.size⟩⟩
 rw [ku om];by_cases hij:j=i
 ·subst hij;rw [List.getElem_set_self,if_pos rfl];exact key _ _ hz hb
 ·rw [List.getElem_set_ne hij,if_neg (λh=>hij h.symm)];exact key _ _ (g3 i hi).1 (g3 i hi).2
end
theorem lD:T.ah≠T.ey:=dcd
section
variable {w:TW} {p:Option Addr} {pz mo hg g po nu ra ro dv rc c m d k e t:Nat} {now:Int} {tab:List Int}
theorem nL{a b:Sl}{na nb:Bool}{y:Int}(hE:Eg w p [pz,mo,hg,g,po,nu,ra,ro,dv,rc,c,m,d,k,e] t now tab)(ha:Iz w a na x)(hb:Iz w b nb y)(hx:sz x.natAbs≤1048576)(hy:sz y.natAbs≤1048576)(h0:0≤now)(h1:now≤1000000000000000000):
  Ct Pg F.bT [.pointer p,.agg #[a.v,.bool na],.agg #[b.v,.bool nb]] w (λk=>k=t) [.agg [.slice,.bool]] λ(s:Sl)(n:Bool) w'=>Io w' w.w.heap.size s n (x*y)∧Eg w' p [pz,mo,hg,g,po,nu,ra,ro,dv,rc,c,m,d,k,e] t now tab:=by
 refine Ct.bT ?_;unfold Sh.bT;intro w1 e1 w2 e2 w3 e3;have e13:=((e1.trans e2).trans e3).drew;have hE:=hE.here.ext e13;have ha:=ha.here.ext e13;have hb:=hb.here.ext e13;refine hE.down11 λ_ _ _ _ _ _ _ _ _ _ _ _ _ _ _ _ _ _ _ _ _ _ E11 H11=>?_
 refine t1 hE.tz (pa E11 ha.abs hb.abs om om h0 om) ?_;rintro s w4 x4 ⟨h4,E4⟩;have hE4:=hE.re x4 E4;refine eJ (H11.extT x4).tail ?_;have y4:Xt1 t w.here w4:=e13.any.trans x4
 have hneg:∀z:Nat,z=x.natAbs*y.natAbs→∀bb:Bool,bb=(!(na == nb)&&decide (z≠0))→bb=decide (x*y<0):=by
  intro z hz bb hbb;have hxn:=ha.neg_;have hyn:=hb.neg_;obtain⟨X,hX⟩:∃X,x.natAbs=X:=⟨_,rfl⟩;obtain⟨Y,hY⟩:∃Y,y.natAbs=Y:=⟨_,rfl⟩;rw [hX] at hxn hz;rw [hY] at hyn hz;subst hbb;have hXY:(0:Int)≤(X:Int)*Y:=Int.mul_nonneg om om;have hzi:(z:Int)=(X:Int)*Y:=by rw [hz];push_cast;rfl
  rw [Bool.eq_iff_iff,Bool.and_eq_true,decide_eq_true_iff,decide_eq_true_iff];cases na<;>cases nb<;>simp at hxn hyn ⊢<;>rw [hxn,hyn]
  ·omega
  ·rw [Int.mul_neg];omega
  ·rw [Int.neg_mul];omega
  ·rw [Int.neg_mul_neg];omega
 refine j2 (λ(u:Sl)(bb:Bool) w8=>Ext aa w4 w8∧u=s∧bb=decide (x*y<0)) ?_ ?_
 ·refine aW (λh=>?_) (λh=>?_)
  ·refine c1 (gA h4.nt) ?_;rintro ok w5 e5 rfl;intro w6 e6;refine⟨e5.trans e6,rfl,hneg _ rfl _ ?_⟩;rw [h];simp
  ·intro w7 e7;refine⟨e7,rfl,hneg _ rfl _ ?_⟩;rw [h];simp
 rintro u bb w8 ⟨e8,rfl,rfl⟩;refine⟨(_,_,()),rfl,y4.trans e8.any,⟨?_,rfl⟩,(hE4.ext e8).at⟩;rw [Int.natAbs_mul];exact ((On.ext h4 e8).less e13.size).at
set_option maxHeartbeats 800000 in
theorem vM{a b:Sl}{xs ys:List Int}(hE:Eg w p [pz,mo,hg,g,po,nu,ra,ro,dv,rc,c,m,d,k,e] t now tab)(ha:Ri w a xs)(hb:Ri w b ys)(hs:Sht xs ys)(h0:0≤now)(h1:now≤1000000000000000000):
  Ct Pg F.dG [.pointer p,a.v,b.v] w (λk=>k=t) [.one .slice] λ(s:Sl) w'=>Of (dg W64) w' w.w.heap.size T.ah s (pmt xs ys)∧Eg w' p [pz,mo,hg,g,po,nu,ra,ro,dv,rc,c,m,d,k,e] t now tab:=by
 refine Ct.dG ?_;unfold Sh.dG;obtain⟨l1,l2,-⟩:=id hs;refine c1 (polyz_trim ha.here om) ?_;rintro _ w1 e1 rfl;refine c1 (polyz_trim (hb.here.ext e1) om) ?_;rintro _ w2 e2 rfl;have e12:=e1.trans e2;have hE2:=hE.here.ext e12;have hA:=(ha.here.ext e12).cut (Nat.zero_le _) (au xs);have hB:=(hb.here.ext e12).cut (Nat.zero_le _) (au ys);rw [List.drop_zero,eS] at hA hB;have hs':=hs.trim;have hpm:∀k,(pm (ag xs) (ag ys)).getD k 0=(pm xs ys).getD k 0:=λk=>kv (λi=>cC _ _) (λi=>cC _ _) k
 have hnone:=@nz xs ys;obtain⟨X,hX⟩:∃X,ag xs=X:=⟨_,rfl⟩;obtain⟨Y,hY⟩:∃Y,ag ys=Y:=⟨_,rfl⟩;rw [hX] at hA hs' hpm hnone ⊢;rw [hY] at hB hs' hpm hnone ⊢;have n1:=hA.len;have n2:=hB.len;obtain⟨ts,hA1,hA2,hA3⟩:=hA;obtain⟨k1,k2,k3⟩:=id hs';refine sQ n1 n2 ?_;refine ac (λhz0=>?_) (λhz0=>?_)
 ·refine rt1 (c:=.slice) Sl.nil e12.any ⟨?_,hE2.at⟩;rw [hnone hz0];exact Of.nil _ _ _ _
 refine ab om om (ab om om ?_);obtain⟨N,hN⟩:∃N,N=X.length+Y.length-1:=⟨_,rfl⟩;refine abB (D:=dg W64) (aG _) (N:=N) om om λs2 w4 h4 e4=>?_
 have hE4:=hE2.ext e4;refine j0 (λw16=>(∃l,Of (dg W64) w16 w2.w.heap.size T.ah s2 l∧l.length=N∧∀k,l.getD k 0=(pm X Y).getD k 0)∧Xt1 t w2 w16∧Eg w16 p [pz,mo,hg,g,po,nu,ra,ro,dv,rc,c,m,d,k,e] t now tab) ?_ ?_
 ·refine lp1 (λM (x:Int) w5=>∃i l,x=(i:Nat)∧M=X.length-i∧i≤X.length∧Of (dg W64) w5 w2.w.heap.size T.ah s2 l∧l.length=N∧(∀k,l.getD k 0=czi X Y i k)∧Xt1 t w2 w5∧Eg w5 p [pz,mo,hg,g,po,nu,ra,ro,dv,rc,c,m,d,k,e] t now tab) X.length ⟨0,_,rfl,om,om,h4,smp,λk=>by rw [rU,tO],e4.any,hE4⟩ ?_;rintro M x w5 ⟨i,l,rfl,rfl,hi,ho,hl,gl,x5,hE5⟩;refine ac (λh=>?_) (λh=>?_)
  ·have hi':i<X.length:=om;have hzt:=hA3 i om;refine (hA1.extT (qs ts) hE2.tz x5).at2 (j:=i) rfl om λa1 _ q0 q1=>ldp q0 q1 ?_
   intro w6 e6 w7 e7;have e57:=e6.trans e7;refine j0 (λw15=>(∃l,Of (dg W64) w15 w2.w.heap.size T.ah s2 l∧l.length=N∧∀k,l.getD k 0=czi X Y (i+1) k)∧Xt1 t w2 w15∧Eg w15 p [pz,mo,hg,g,po,nu,ra,ro,dv,rc,c,m,d,k,e] t now tab) ?_ ?_
   ·refine lp3 (λM (x:Int) (u:Sl) (bb:Bool) w8=>u=ts[i].1∧bb=ts[i].2∧∃j l,x=(j:Nat)∧M=Y.length-j∧j≤Y.length∧Of (dg W64) w8 w2.w.heap.size T.ah s2 l∧l.length=N∧(∀k,l.getD k 0=mid X Y i j k)∧Xt1 t w2 w8∧Eg w8 p [pz,mo,hg,g,po,nu,ra,ro,dv,rc,c,m,d,k,e] t now tab) Y.length ⟨rfl,rfl,0,l,rfl,om,om,ho.ext e57,hl,λk=>by rw [gl k,th],x5.trans e57.any,hE5.ext e57⟩ ?_;rintro M x u bb w8 ⟨rfl,rfl,j,l,rfl,rfl,hj,ho,hl,gl,x8,hE8⟩;refine ac (λh=>?_) (λh=>?_)
    ·have hj':j<Y.length:=om;have hB8:=hB.extT hE2.tz x8;refine hB8.ix (j:=j) rfl hj' λa2 tu hzu _ r0 r1=>ldp r0 r1 ?_
     intro w9 e9 w10 e10;have e810:=(e9.trans e10).drew;refine ak (y:=((i+j:Nat):Int)) ((aI om om).trans om) ?_;refine ak (y:=((i+j:Nat):Int)) ((aI om om).trans om) ?_;have hE10:=hE8.ext e810;refine (ho.ext e810).oq.ixT hE10.tz lD (j:=i+j) rfl om λa3 u4 b4 hel H=>?_
     have hzx:=(hzt.extT hE2.tz x8).ext e810;refine tM hE10.tz (nL hE10 hzx (hzu.ext e810) (hs'.one i).1 (hs'.one j).2 h0 h1) ?_;rintro r r1 w11 x11 ⟨hr,hE11⟩;refine eJ (H.extT x11) ?_;have hel':Iz w11 u4 b4 (l.getD (i+j) 0):=(El.iz hel).extT hE10.tz x11;refine cl0 (num_Add hel' hr.iz (by rw [gl];exact Nat.le_trans (hs'.mid hi' j (i+j)) dcd) ?_) ?_
     ·rw [Int.natAbs_mul];have:=fE (X.getD i 0).natAbs (Y.getD j 0).natAbs;have:=(hs'.one i).1;have:=(hs'.one j).2;omega
     intro r2 r3 w12 e12' hr2;have hr2:Io w12 w11.w.heap.size r2 r3 (l.getD (i+j) 0+X.getD i 0*Y.getD j 0):=hr2;have x812:Xt1 t w8 w12:=(e810.any.trans x11).trans e12'.any;have ho12:=ho.extT hE8.tz lD x812;have hE12:=hE11.ext e12'
     have hfar:∀c,r2.blk=some c→w2.w.heap.size≤c∧s2.blk≠some c∧c<w12.w.heap.size:=λc hc=>by
      have q1:=Ow.from_ hr2.1 c hc;refine⟨Nat.le_trans (x8.trans (e810.any.trans x11)).size q1.1,λhs=>?_,q1.2⟩;have:=(ho.lt_blk c hs).2;have:=(e810.any.trans x11).size;omega
     refine ho12.set (z:=l.getD (i+j) 0+X.getD i 0*Y.getD j 0) rfl om hr2.el (λ_=>hfar) λw14 h14 e14=>?_
     have hX:∀c,s2.blk=some c→w2.w.heap.size≤c:=λc hc=>(ho12.lt_blk c hc).1
     have hE14:=hE12.young hE2 e14 hX;have x14:Xt1 t w2 w14:=Ext.mineT (x8.trans x812) e14 λc hc=>.inr (hX c hc)
     refine ab om om ⟨Y.length-(j+1),om,rfl,rfl,j+1,_,om,rfl,om,h14,by simp [hl],λk=>?_,x14,hE14⟩;rw [ku om,ti,gl,gl];by_cases h':k=i+j
     ·subst h';rfl
     ·rw [if_neg h',if_neg h']
    ·exact⟨⟨l,ho,hl,λk=>by rw [gl k,vg X Y om]⟩,x8,hE8⟩
   rintro w15 ⟨⟨l,ho,hl,gl⟩,x15,hE15⟩;exact ab om om ⟨X.length-(i+1),om,i+1,l,om,rfl,om,ho,hl,gl,x15,hE15⟩
  ·exact⟨⟨l,ho,hl,λk=>by rw [gl k,show i=X.length by omega,vr]⟩,x5,hE5⟩
 rintro w16 ⟨⟨l,ho,hl,gl⟩,x16,hE16⟩;refine c1 (polyz_trim ho.rq.ri om) ?_;rintro _ w17 e17 rfl;have hc:=(ho.cut (au l)).ext e17;rw [eS] at hc;refine rt1 (c:=.slice) _ ((e12.any.trans x16).trans e17.any) ⟨?_,(hE16.ext e17).at⟩;rw [←uY (a:=xs) (b:=ys) (l:=l) λk=>by rw [gl k,hpm k]];exact (hc.less e12.size).at
end
end
end Go.Proofs.YtpbimnlggalnfaaGreatDoor.Zg
