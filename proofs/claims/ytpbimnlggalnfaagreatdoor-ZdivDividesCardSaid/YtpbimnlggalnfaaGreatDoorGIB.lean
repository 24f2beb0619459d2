/- A part of the proofs of this seat's laws. -/
import Derived.Test.YtpbimnlggalnfaaGreatDoorGIA
import Derived.Test.YtpbimnlggalnfaaGreatDoorGP
import Derived.Test.YtpbimnlggalnfaaGreatDoorGP1
import Derived.Test.YtpbimnlggalnfaaGreatDoorGP2
import Derived.Test.YtpbimnlggalnfaaGreatDoorGP3
import Derived.Test.YtpbimnlggalnfaaGreatDoorGP5
import Derived.Deep.SlicePairs
import Derived.Deep.Fields
import Derived.Test.YtpbimnlggalnfaaGreatDoorGS
set_option linter.unusedVariables false
set_option linter.unusedSimpArgs false
set_option linter.unnecessarySimpa false
namespace Go.Proofs.YtpbimnlggalnfaaGreatDoor.Zg
open Go.RowKit
section
variable {k n x:Nat} {w:TW} {a:Sl}
theorem iq{K:Nat}(h:x<2^K):sz x≤K/64+1:=cQ (by rw [kw,←Nat.pow_mul];exact Nat.lt_of_lt_of_le h (Nat.pow_le_pow_right dcd om))
theorem zmul_digits{f:Nat}(ha:Nt w a x)(hn:n≤1048576)(hf:f≤4611686018427387904)(hs:a.n≤549755813888):Ct Pg F.iN [a.v,.int .i64 f,.int .i64 n] w aa [.one .slice] λ(s':Sl) w'=>On w' w.w.heap.size s' (x/2^f%2^n):=by
 obtain⟨l,ha,rfl⟩:=ha;refine Ct.iN ?_;unfold Sh.iN;have na:=ha.len;have hcap:=ha.rv.2.1;refine jb (x:=f) (y:=64) rfl rfl om dcd ?_;have hxl:=jQ ha.sm;have hdm:=Nat.div_add_mod f 64;have hr:=Nat.mod_lt f (show 0<64 by decide);have hW:∀j,W64^j=2^(64*j):=λj=>by rw [Nat.pow_mul]
 have hsplit:vl W64 l/2^f=vl W64 l/W64^(f/64)/2^(f%64):=by
  rw [hW,Nat.div_div_eq_div_mul,←Nat.pow_add,hdm]
 refine ac (λh=>?_) (λh=>?_)
 ·refine rt1 (c:=.slice) Sl.nil (Ext.refl _ _) ?_
  have:vl W64 l/2^f=0:=by
   rw [hsplit,Nat.div_eq_of_lt (Nat.lt_of_lt_of_le hxl (Nat.pow_le_pow_right dcd om)),Nat.zero_div]
  rw [this,Nat.zero_mod];exact On.nil _ _
 refine jb (x:=n) (y:=64) rfl rfl om dcd (ab om om (ab om om ?_));obtain⟨T,hT⟩:∃T,T=min (f/64+n/64+2) l.length:=⟨_,rfl⟩;refine ag (y:=(T:Int)) (by split<;>omega) ⟨om,om,om,?_⟩;rw [Int.toNat_natCast,Int.toNat_natCast];have hcut:=ha.here.cut (lo:=f/64) (hi:=T) om om
 have hv:vl W64 ((l.take T).drop (f/64))=vl W64 l/W64^(f/64)%W64^(T-f/64):=by
  rw [List.drop_take,(bQ (ha.sm.drop _) _).2,(bQ ha.sm _).1]
 have hN:=hcut.nt;rw [hv] at hN;refine eP (x:=f) (y:=64) rfl rfl dcd ?_;have hsz:sz (vl W64 l/W64^(f/64)%W64^(T-f/64))≤l.length:=Nat.le_trans (aq (Nat.le_trans (Nat.mod_le _ _) (Nat.div_le_self _ _))) (df ha.sm);refine c1 (limb_Shr (n:=((f%64:Nat):Int)) hN om) λs1 w1 e1 h1=>?_
 rw [show min (((f%64:Nat):Int).toNat) 1048576=f%64 by omega] at h1;refine c1 (limb_Low (n:=n) h1.nt (Nat.le_trans (aq (Nat.div_le_self _ _)) om)) λs2 w2 e2 h2=>?_
 rw [show min ((n:Int).toNat) 1048576=n by omega] at h2;refine rt1 (c:=.slice) _ (e1.trans e2) ?_
 have key:vl W64 l/W64^(f/64)%W64^(T-f/64)/2^(f%64)%2^n=vl W64 l/2^f%2^n:=by
  rw [hsplit];by_cases hlen:f/64+n/64+2≤l.length
  ·have e:W64^(T-f/64)=2^(f%64)*2^(64*(T-f/64)-f%64):=by rw [hW,←Nat.pow_add];congr 1;omega
   rw [e,Nat.mod_mul_right_div_self];exact Nat.mod_mod_of_dvd _ (Nat.pow_dvd_pow 2 om)
  ·have hTl:T=l.length:=om
   have:vl W64 l/W64^(f/64)<W64^(T-f/64):=by
    rw [Nat.div_lt_iff_lt_mul (Nat.pow_pos dcd),←Nat.pow_add,hTl,Nat.sub_add_cancel om];exact hxl
   rw [Nat.mod_eq_of_lt this]
 rw [key] at h2;exact On.at (On.less h2 e1.size)
theorem zmul_shifted{B:Nat}{neg:Bool}{z:Int}(ha:Io w B a neg z)(hB:B≤w.w.heap.size)(hz:sz (z.natAbs*2^n)≤1099511627776)(hn:n≤1099511627776):Ct Pg F.ik [.agg #[a.v,.bool neg],.int .i64 n] w aa [.agg [.slice,.bool]] λ(s':Sl)(neg':Bool) w'=>Io w' B s' neg' (z*(2^n:Nat)):=by
 refine Ct.ik ?_;unfold Sh.ik;intro w1 e1 w2 e2;have e12:=e1.trans e2;have h0:=On.ext (w:=w.here) (Ow.here ha.1) e12;refine⟨λ(x:Sl)(b:Bool)(_:Sl)(_:Bool) w'=>On w' B x (z.natAbs*2^n)∧b=neg∧Ext aa w.here w',?_,?_⟩
 ·refine⟨λm (i:Int) (x:Sl) (b:Bool) (_:Sl) (_:Bool) w3=>m≤n∧i=m∧On w3 B x (z.natAbs*2^(n-m))∧b=neg∧Ext aa w.here w3,⟨n,Nat.le_refl _,rfl,by simpa using h0,rfl,e12⟩,?_⟩;intro m (i:Int) (x:Sl) (b:Bool) (_:Sl) (_:Bool) w3 h;obtain⟨hm,rfl,hx,rfl,e3⟩:=h;refine ac (λh=>?_) (λh=>?_)
  ·refine ag (y:=((min m 1048576:Nat):Int)) (by split<;>omega) ?_;have hle:z.natAbs*2^(n-m)≤z.natAbs*2^n:=Nat.mul_le_mul_left _ (Nat.pow_le_pow_right dcd om);refine c1 (limb_Shl (n:=((min m 1048576:Nat):Int)) (On.nt hx) (Nat.le_trans (aq hle) hz)) λs w4 e4 h4=>?_
   rw [show min (((min m 1048576:Nat):Int).toNat) 1048576=min m 1048576 by omega] at h4;refine ab om om ⟨m-min m 1048576,om,om,om,?_,rfl,e3.trans e4⟩;rw [show n-(m-min m 1048576)=n-m+min m 1048576 by omega,Nat.pow_add,←Nat.mul_assoc];exact On.less h4 (Nat.le_trans hB e3.size)
  ·have:m=0:=om;subst this;exact⟨hx,rfl,e3⟩
 intro x b _ _ w3 h;obtain⟨hx,rfl,e3⟩:=h;intro w4 e4;refine⟨(x,b,()),rfl,e3.trans e4,?_⟩;have hp:=Nat.two_pow_pos n;refine⟨?_,?_⟩
 ·rw [Int.natAbs_mul,Int.natAbs_natCast];exact On.at (On.ext hx e4)
 ·rw [ha.2,decide_eq_decide];constructor
  ·intro h;exact Int.mul_neg_of_neg_of_pos h om
  ·intro h;rcases Int.lt_or_le z 0 with h'|h'
   ·exact h'
   ·have:=Int.mul_nonneg h' (show (0:Int)≤((2^n:Nat):Int) by omega);omega
theorem oF{M:Nat}(hM:0<M):∀{l:List Int},(∀z∈l,z.natAbs<M)→(ak (M:Int) l).natAbs<M^l.length
 | [],_=>by simp [ak]
 | z::l,h=>by
  have ih:=oF hM (l:=l) λy hy=>h y (List.mem_cons_of_mem _ hy)
  have hz:=h z (List.mem_cons_self ..);show (z+(M:Int)*ak M l).natAbs<_;rw [List.length_cons,Nat.pow_succ];have h1:=Int.natAbs_add_le z ((M:Int)*ak M l);rw [Int.natAbs_mul,Int.natAbs_natCast] at h1;have h2:=Nat.mul_le_mul_left M (Nat.succ_le_of_lt ih);rw [Nat.mul_succ,Nat.mul_comm M (M^l.length)] at h2;omega
theorem wv(b:Int)(l m:List Int):ak b (l++m)=ak b l+b^l.length*ak b m:=by
 induction l with
 | nil=>simp [ak]
 | cons z l ih=>rw [List.cons_append,ak,ih,ak,List.length_cons,Int.pow_succ];grind
theorem fM(h:bl x≤k):x<2^k:=Nat.lt_of_lt_of_le (fr x) (Nat.pow_le_pow_right dcd h)
theorem zmul_half(hk:k≤1048576):∀(n:Nat) {w:TW} {a:Sl} {zs:List Int},Ri w a zs→zs.length≤n→n≤65536→(∀z∈zs,z.natAbs<2^k)→Ct Pg F.il [a.v,.int .i64 k] w aa [.agg [.slice,.bool]] λ(s':Sl)(neg':Bool) w'=>Io w' w.w.heap.size s' neg' (ak (2^k:Nat) zs):=by
 intro n;induction n using Nat.strongRecOn with
 | ind n ih=>
 intro w a zs ha hl hn hz;refine Ct.il ?_;unfold Sh.il;have na:=ha.len;have hcap:a.n≤a.c:=by obtain⟨ts,g1,_⟩:=ha;exact g1.2.1
 intro w1 e1;have hp2:=Nat.two_pow_pos k
 have szb:∀{l:List Int} {x:Nat},(∀z∈l,z.natAbs<2^k)→l.length≤65536→x<(2^k)^l.length→sz x≤1099511627776:=fun {l x} h1 h2 h3=>by
  rw [←Nat.pow_mul] at h3;have h4:=iq h3;have h5:k*l.length≤1048576*65536:=Nat.mul_le_mul hk h2;omega
 refine aG (λh=>?_) (λh=>?_)
 ·have h0:zs=[]:=by
   have:(a.n:Int)=0:=by simpa using h
   exact List.length_eq_zero_iff.1 om
  subst h0;intro w2 e2;exact⟨(Sl.nil,false,()),rfl,e1.trans e2,On.nil _ _,rfl⟩
 have hne:a.n≠0:=λh'=>by simp [h'] at h
 refine aG (λh1=>?_) (λh1=>?_)
 ·have hl1:zs.length=1:=by
   have:(a.n:Int)=1:=by simpa using h1
   omega
  obtain⟨z,rfl⟩:=List.length_eq_one_iff.1 hl1;refine (ha.here.ext e1).ix (j:=0) rfl smp λad t hzt _ k0 k1=>ldp k0 k1 ?_
  have hzt:Iz w1 t.1 t.2 z:=hzt;have hzz:=hz z smp;refine cl0 (num_Norm hzt (szb (l:=[z]) hz smp (by simpa using hzz))) ?_;intro r rn w2 e2 hr;have hr:Io w2 w1.w.heap.size r rn z:=hr;intro w3 e3;refine⟨(r,rn,()),rfl,(e1.trans e2).trans e3,?_⟩;have:ak ((2^k:Nat):Int) [z]=z:=by simp [ak]
  rw [this];exact ((hr.ext e3).less e1.size).at
 have hn1:a.n≠1:=λh'=>by simp [h'] at h1
 refine jb (x:=a.n) (y:=2) rfl rfl om dcd ?_;obtain⟨H,hH⟩:∃H,H=a.n/2:=⟨_,rfl⟩;rw [←hH];refine⟨om,om,om,?_⟩;rw [Int.toNat_natCast,Int.toNat_natCast,na];have hi:=(ha.here.ext e1).cut (lo:=H) (hi:=zs.length) om (Nat.le_refl _);rw [List.take_of_length_le (Nat.le_refl _)] at hi;have hzd:∀z∈zs.drop H,z.natAbs<2^k:=λz h=>hz z (List.mem_of_mem_drop h)
 have hzt:∀z∈zs.take H,z.natAbs<2^k:=λz h=>hz z (List.mem_of_mem_take h)
 refine cl0 (ih (zs.drop H).length (by simp;omega) hi (Nat.le_refl _) (by simp;omega) hzd) ?_;intro r rn w2 e2 hr;have hr:Io w2 w1.w.heap.size r rn (ak (2^k:Nat) (zs.drop H)):=hr;intro w3 e3 w4 e4;refine⟨om,om,om,?_⟩;have hkH:k*H≤1048576*65536:=Nat.mul_le_mul hk om;refine ag (y:=((k*H:Nat):Int)) (mD om) ?_;have ed:=((e2.trans e3).trans e4).drew;have lo:=((ha.here.ext e1).ext ed).cut (lo:=0) (hi:=H) (Nat.zero_le _) om;rw [List.drop_zero] at lo;refine cl0 (ih (zs.take H).length (by simp;omega) lo (Nat.le_refl _) (by simp;omega) hzt) ?_;intro q qn w5 e5 hq;have hq:Io w5 w4.w.heap.size q qn (ak (2^k:Nat) (zs.take H)):=hq;have hhi:=oF hp2 hzd;have hlo:=oF hp2 hzt;have e35:=(e3.trans e4).drew.trans e5
 have hfull:(ak (2^k:Nat) (zs.drop H)).natAbs*2^(k*H)<(2^k)^zs.length:=by
  have:(2^k)^zs.length=(2^k)^(zs.drop H).length*2^(k*H):=by
   rw [Nat.pow_mul,←Nat.pow_add];congr 1;simp;omega
  rw [this];exact Nat.mul_lt_mul_of_pos_right hhi (Nat.two_pow_pos _)
 refine cl0 (zmul_shifted (hr.ext e35) (Nat.le_trans e2.size e35.size) (szb hz om hfull) om) ?_;intro u un w6 e6 hu;have hu:Io w6 w1.w.heap.size u un (ak (2^k:Nat) (zs.drop H)*(2^(k*H):Nat)):=hu;refine cl0 (num_Add (hq.ext e6).iz hu.iz (szb hzt (by simp;omega) hlo) (by rw [Int.natAbs_mul,Int.natAbs_natCast];exact szb hz om hfull)) ?_;intro v vn w7 e7 hv;have hv:Io w7 w6.w.heap.size v vn (ak (2^k:Nat) (zs.take H)+ak (2^k:Nat) (zs.drop H)*(2^(k*H):Nat)):=hv;intro w8 e8;have eE:=(((e1.trans ed).trans e5).trans e6);refine⟨(v,vn,()),rfl,(eE.trans e7).trans e8,?_⟩
 have hp:ak ((2^k:Nat):Int) zs=ak (2^k:Nat) (zs.take H)+ak (2^k:Nat) (zs.drop H)*(2^(k*H):Nat):=by
  conv=>lhs;rw [←List.take_append_drop H zs]
  rw [wv,List.length_take,Nat.min_eq_left om,Int.mul_comm,←Int.natCast_pow,Nat.pow_mul]
 rw [hp];exact ((hv.ext e8).less eE.size).at
end
section
variable {M:Nat} {c q z:Int} {l:List Int}
inductive Un (M:Nat):Int→List Int→Prop
 | nil:Un M 0 []
 | cons {z:Int} {l:List Int} (h:z≠0) (t:Un M ((z-sgd (z%(M:Int)).toNat M)/(M:Int)) l):Un M z (sgd (z%(M:Int)).toNat M::l)
theorem Un.det(h:Un M z l):∀{l':List Int},Un M z l'→l=l':=by
 induction h with
 | nil=>
  intro l' h';cases h' with
  | nil=>rfl
  | cons h t=>exact absurd rfl h
 | cons h t ih=>
  intro l' h';cases h' with
  | nil=>exact absurd rfl h
  | cons h2 t2=>rw [ih t2]
theorem aaE(hM:0<M):∃q,z=M*q+sgd (z%(M:Int)).toNat M∧-(M:Int)<2*sgd (z%(M:Int)).toNat M∧2*sgd (z%(M:Int)).toNat M≤M:=by
 have h1:=Int.emod_add_mul_ediv z M;have h2:=Int.emod_nonneg z (show (M:Int)≠0 by omega);have h3:=Int.emod_lt_of_pos z (show (0:Int)<M by omega);have h4:(z%(M:Int)).toNat%M=(z%(M:Int)).toNat:=Nat.mod_eq_of_lt om;unfold sgd;rw [h4];split
 ·exact⟨z/M+1,by rw [Int.mul_add];omega,om,om⟩
 ·exact⟨z/M,om,om,om⟩
theorem qV(hM:0<M)(h:z=M*q+c)(h1:-(M:Int)<2*c)(h2:2*c≤M):sgd (z%(M:Int)).toNat M=c∧(z-c)/(M:Int)=q:=by
 refine⟨?_,by rw [h,Int.add_sub_cancel,Int.mul_ediv_cancel_left _ om]⟩
 have h3:z%(M:Int)=if c<0 then c+M else c:=by
  split
  ·refine (eu (q:=q-1) om ?_ om om).2;rw [Int.mul_sub];omega
  ·exact (eu (q:=q) om om om om).2
 unfold sgd;have h4:(z%(M:Int)).toNat<M:=by rw [h3];split<;>omega
 rw [Nat.mod_eq_of_lt h4,h3];split<;>split<;>omega
theorem ab1(hM:4≤M)(h:z=M*q+c)(h1:-(M:Int)<2*c)(h2:2*c≤M):2*q.natAbs≤z.natAbs:=by
 rcases Int.lt_trichotomy q 0 with hq|hq|hq
 ·have:=Int.mul_nonneg (show (0:Int)≤(M:Int)-2 by omega) (show (0:Int)≤-q-1 by omega);have e:((M:Int)-2)*(-q-1)=-((M:Int)*q)-M+2*q+2:=by grind
  rw [e] at this;omega
 ·omega
 ·have:=Int.mul_nonneg (show (0:Int)≤(M:Int)-2 by omega) (show (0:Int)≤q-1 by omega);have e:((M:Int)-2)*(q-1)=(M:Int)*q-M-2*q+2:=by grind
  rw [e] at this;omega
theorem acS{x y:Nat}(h:2*y≤x)(hx:0<x):bl y+1≤bl x:=by
 rw [acT hx];have:bl y≤bl (x/2):=aY (Nat.lt_of_le_of_lt om (fr (x/2)));omega
theorem Un.zero(h:Un M z l)(hl:l=[]):z=0:=by
 cases h with
 | nil=>rfl
 | cons=>cases hl
theorem Un.last(hM:0<M)(h:Un M z l):∀c,l.getLast?=some c→c≠0:=by
 induction h with
 | nil=>intro c h;simp at h
 | cons h t ih=>
  rename_i z l;intro c hc;cases l with
  | nil=>
   simp at hc;subst hc;obtain⟨q,hq,h1,h2⟩:=aaE (z:=z) hM;have h3:=(qV hM hq h1 h2).2;have h4:=t.zero rfl;rw [h3] at h4;subst h4;rw [Int.mul_zero,Int.zero_add] at hq;exact λh'=>h (hq.trans h')
  | cons y l=>exact ih c (by simpa using hc)
theorem Un.trim(hM:0<M)(h:Un M z l):ae l=l:=fE (h.last hM)
end
section
variable {w:TW}
theorem lp5{c1 c2 c3 c4 c5:CK}{body:Tel [c1,c2,c3,c4,c5] (TW→(Tel [c1,c2,c3,c4,c5] (TW→Prop))→Prop)}{x1:CV c1}{x2:CV c2}{x3:CV c3}{x4:CV c4}{x5:CV c5}(I:Nat→CV c1→CV c2→CV c3→CV c4→CV c5→TW→Prop)(m:Nat)(h0:I m x1 x2 x3 x4 x5 w)(hs:∀m x1 x2 x3 x4 x5 w,I m x1 x2 x3 x4 x5 w→body x1 x2 x3 x4 x5 w (λy1 y2 y3 y4 y5 w'=>∃m',m'<m∧I m' y1 y2 y3 y4 y5 w')):Lp [c1,c2,c3,c4,c5] body x1 x2 x3 x4 x5 w:=⟨I,⟨m,h0⟩,hs⟩
theorem zmul_unpacked{B:Nat}{a:Sl}{neg:Bool}{z:Int}{k:Nat}(ha:Io w B a neg z)(h2:2≤k)(hk:k≤1048576)(hz:bl z.natAbs≤1073741824):Ct Pg F.gk [.agg #[a.v,.bool neg],.int .i64 k] w aa [.one .slice] λ(s':Sl) w'=>∃l,Un (2^k) z l∧Rq (dg W64) w' s' l∧l.length≤bl z.natAbs∧∀i,bl (l.getD i 0).natAbs≤k:=by
 refine Ct.gk ?_;unfold Sh.gk;intro w1 e1;have szk:sz (1*2^k)≤k/64+1:=by rw [Nat.one_mul];exact cQ (by rw [kw,←Nat.pow_mul];exact Nat.pow_lt_pow_right dcd om)
 refine c1 (limb_One (y:=1) dcd) λs w2 e2 g2=>?_
 have so:=gI (x:=1) dcd;refine c1 (limb_Shl (n:=k) (On.nt g2) om) λs1 w3 e3 g3=>?_
 rw [show min ((k:Int).toNat) 1048576=k by omega,Nat.one_mul] at g3;refine c1 (limb_One (y:=1) dcd) λs2 w4 e4 g4=>?_
 refine ag (y:=((k-1:Nat):Int)) ((ar om om).trans om) ?_;refine c1 (limb_Shl (n:=((k-1:Nat):Int)) (On.nt g4) om) λs3 w5 e5 g5=>?_
 rw [show min (((k-1:Nat):Int).toNat) 1048576=k-1 by omega,Nat.one_mul] at g5;have e15:=((((e1.trans e2).trans e3).trans e4).trans e5);have hszz:sz z.natAbs≤16777217:=by have:=iq (fr z.natAbs);omega
 have hal:=ha.1.len;refine c1 (i6 (On.nt (On.ext (w:=w.here) (Ow.here ha.1) e15)) om) ?_;rintro r w6 e6 rfl;refine ab om om (ab om om ?_);obtain⟨n,hn⟩:∃n,n=(bl z.natAbs+k-1)/k:=⟨_,rfl⟩;refine jb (x:=bl z.natAbs+k-1) (y:=k) om rfl om om ?_;rw [←hn];have e16:=e15.trans e6;have gA:Nt w6 a z.natAbs:=On.nt (On.ext (w:=w.here) (Ow.here ha.1) e16);have gM:Nt w6 s1 (2^k):=(((On.nt g3).ext e4).ext e5).ext e6;have gL:Nt w6 s3 (2^(k-1)):=(On.nt g5).ext e6;have hneg:=ha.2;have hM2:2^k=2*2^(k-1):=by rw [Nat.mul_comm,←Nat.pow_succ];congr 1;omega
 have hM4:4≤2^k:=Nat.le_trans (by decide:4≤2^2) (Nat.pow_le_pow_right dcd h2);obtain⟨M,hMd⟩:∃M,2^k=M:=⟨_,rfl⟩;obtain⟨Lm,hLm⟩:∃Lm,2^(k-1)=Lm:=⟨_,rfl⟩;have hMp:∀j,M^j=2^(j*k):=λj=>by rw [←hMd,←Nat.pow_mul,Nat.mul_comm]
 have hszM:sz M≤16386:=by rw [←hMd];rw [Nat.one_mul] at szk;omega
 rw [hMd] at hM2 hM4 gM ⊢;rw [hLm] at hM2 gL;obtain⟨N,hN⟩:∃N,z.natAbs=N:=⟨_,rfl⟩;rw [hN] at gA hz hn hszz hal
 have hbn:∀j,j<n→N/M^j≠0:=λj hj h0=>by
  have hp:0<M^j:=Nat.pow_pos om;have h3:N<M^j:=(Nat.div_eq_zero_iff_lt hp).1 h0;rw [hMp] at h3;have h4:=aY h3;have h5:(j+1)*k≤n*k:=Nat.mul_le_mul_right k hj;have h6:n*k≤bl N+k-1:=by rw [hn];exact Nat.div_mul_le_self _ _
  rw [Nat.add_mul] at h5;omega
 have hbg:∀j,n≤j→N/M^j=0:=λj hj=>by
  refine Nat.div_eq_of_lt ?_;rw [hMp];refine Nat.lt_of_lt_of_le (fr N) (Nat.pow_le_pow_right dcd ?_);have h5:n*k≤j*k:=Nat.mul_le_mul_right k hj;have h6:=Nat.div_add_mod (bl N+k-1) k;have h7:=Nat.mod_lt (bl N+k-1) (show 0<k by omega);rw [←hn,Nat.mul_comm] at h6;omega
 have szN:sz N≤16777217:=hszz;refine j1 (λ(out:Sl) w'=>∃l,Un M z l∧Rq (dg W64) w' out l∧l.length≤bl z.natAbs∧(∀i,bl (l.getD i 0).natAbs≤k)∧Ext aa w.here w') ?_ ?_
 ·refine lp5 (λm (out:Sl) (carry:Sl) (i:Int) (a2:Sl) (a3:Bool) w7=>a=a2∧neg=a3∧∃(j cv:Nat) (l:List Int) (z':Int),i=j∧m=bl z'.natAbs∧l.length+m≤bl N∧l.length=j∧Nt w7 carry cv∧cv≤1∧z'=(if z<0 then -((N/M^j+cv:Nat):Int) else (N/M^j+cv:Nat))∧(∀r,Un M z' r→Un M z (l++r))∧Oq (dg W64) w7 w6.w.heap.size T.af out l∧(∀i,bl (l.getD i 0).natAbs≤k)∧Ext aa w6 w7) (bl N) ⟨rfl,rfl,0,0,[],z,rfl,by rw [hN],smp,rfl,Nt.nil _,om,?_,λr h=>h,Oq.nil _ _ _ _,λi=>by simp [dX],Ext.refl _ _⟩ ?_
  ·simp only [Nat.pow_zero,Nat.div_one,Nat.add_zero];split<;>omega
  rintro m out carry i a2 a3 w7 ⟨rfl,rfl,j,cv,l,z',rfl,rfl,hml,hlj,hcv,hcv1,hz',hun,ho,hlk,e7⟩;obtain⟨Q,hQ⟩:∃Q,N/M^j=Q:=⟨_,rfl⟩;have hbn':=hbn j;have hbg':=hbg j;rw [hQ] at hz' hbn' hbg'
  have hzq:z'≠0↔(j<n∨cv≠0):=by
   constructor
   ·intro h0;rcases Nat.lt_or_ge j n with h|h
    ·exact .inl h
    ·right;intro hc;rw [hbg' h,hc] at hz';apply h0;rw [hz'];split<;>rfl
   ·intro h0 hz0;have:Q+cv=0:=by rw [hz0] at hz';split at hz'<;>omega
    rcases h0 with h|h
    ·exact hbn' h om
    ·omega
  refine j3 (λ(x:Bool)(b2:Sl)(b3:Bool) w9=>x=decide (z'≠0)∧a=b2∧neg=b3∧Ext aa w7 w9) ?_ ?_
  ·refine ac (λh=>?_) (λh=>?_)
   ·refine⟨?_,rfl,rfl,Ext.refl _ _⟩;symm;rw [decide_eq_true_iff];exact hzq.2 (.inl om)
   ·refine c1 (dS hcv) ?_;rintro q w8 e8 rfl;refine⟨?_,rfl,rfl,e8⟩;have:z'≠0↔cv≠0:=⟨λh0=>(hzq.1 h0).elim (λh'=>om) id,λh0=>hzq.2 (.inr h0)⟩;by_cases hc:cv=0
    ·have:¬z'≠0:=λh'=>this.1 h' hc
     simp only [hc];symm;simpa using this
    ·have:=this.2 hc;simp only [hc];symm;simpa using this
  rintro x b2 b3 w9 ⟨rfl,rfl,rfl,e9⟩;refine ac (λh0=>?_) (λh0=>?_)
  ·have hjb:j≤1073741824:=om;have hjk:j*k≤1073741824*1048576:=Nat.mul_le_mul hjb hk;refine ag (y:=((j*k:Nat):Int)) (mD om) ?_;have e69:=e7.trans e9;have hal':a.n≤16777217:=om;refine c1 (zmul_digits (f:=j*k) (n:=k) (gA.ext e69) hk om om) λs4 w10 e10 g10=>?_
   rw [hMd,←hMp] at g10;rw [hQ] at g10;have hQd:=Nat.div_add_mod Q M;have hQm:=Nat.mod_lt Q (show 0<M by omega);have hQn:N/M^(j+1)=Q/M:=by rw [Nat.pow_succ,←Nat.div_div_eq_div_mul,hQ]
   have sQ:sz (Q%M)≤16386:=Nat.le_trans (aq (Nat.le_of_lt hQm)) hszM;have scv:=gI (x:=cv) (by rw [w64];omega);have hcv:=(hcv.ext e9).ext e10;refine c1 (limb_Add (On.nt g10) hcv om om) λs5 w11 e11 g11=>?_
   obtain⟨d,hd⟩:∃d,Q%M+cv=d:=⟨_,rfl⟩;rw [hd] at g11;have sd:sz d≤16387:=by have:=kI (Q%M) cv;rw [hd] at this;omega
   intro w12 e12 w13 e13;have e6d:=((e69.trans e10).trans (e11.trans e12)).trans e13;have g13:=On.ext (On.ext g11 e12) e13;refine c1 (limb_Cmp (On.nt g13) (gL.ext e6d)) ?_;rintro r w14 e14 rfl;have cp:=@pD d Lm;have ce:=@mY d Lm;refine j5 (λ(x:Bool)(y2:Sl)(y3:Bool)(y4:Sl)(y5:Bool) w15=>x=decide (Lm<d∨(d=Lm∧neg=true))∧a=y2∧neg=y3∧s5=y4∧neg=y5∧w14=w15) ?_ ?_
   ·refine ac (λh=>⟨?_,rfl,rfl,rfl,rfl,rfl⟩) (λh=>?_)
    ·symm;rw [decide_eq_true_iff];exact .inl (cp.1 h)
    ·refine aG (λh'=>⟨?_,rfl,rfl,rfl,rfl,rfl⟩) (λh'=>⟨?_,rfl,rfl,rfl,rfl,rfl⟩)
     ·have:d=Lm:=ce.1 (by simpa using h');subst this;cases neg<;>simp
     ·have:¬d=Lm:=λh''=>by have:=ce.2 h'';rw [this] at h';simp at h'
      symm;rw [decide_eq_false_iff_not];rintro (h''|h'')
      ·exact h (cp.2 h'')
      ·exact this h''.1
   rintro x y2 y3 y4 y5 w15 ⟨rfl,rfl,rfl,rfl,rfl,rfl⟩;have e6e:=e6d.trans e14;have g15:=On.ext g13 e14;refine j5 (λ(c':Sl)(y2':Sl)(y3':Bool)(y4':Sl)(y5':Bool) w19=>a=y2'∧neg=y3'∧Ext aa w14 w19∧∃cv':Nat,∃c:Int,Nt w19 c' cv'∧(∀b,c'.blk=some b→w14.w.heap.size≤b)∧cv'≤1∧Iz w19 y4' y5' c∧2*c.natAbs≤M∧(cv'=if (Lm<d∨(d=Lm∧neg=true)) then 1 else 0)∧c=(if (Lm<d∨(d=Lm∧neg=true)) then (if neg then ((M-d:Nat):Int) else -((M-d:Nat):Int)) else (if neg then -(d:Int) else d))) ?_ ?_
   ·refine ac (λh=>?_) (λh=>?_)
    ·refine c2 (limb_Sub (gM.ext e6e) (On.nt g15) om) ?_;rintro s6 ok w16 e16 ⟨-,g16⟩;intro w17 e17;refine c1 (limb_One (y:=1) dcd) λs7 w18 e18 g18=>⟨rfl,rfl,(e16.trans e17).trans e18,1,_,On.nt g18,λb hb=>Nat.le_trans (e16.trans e17).size (Ow.blk_le g18 b hb),om,⟨M-d,((On.nt g16).ext e17).ext e18,rfl⟩,?_,by rw [if_pos h],?_⟩
     ·cases neg<;>simp<;>omega
     ·rw [if_pos h];cases neg<;>simp
    ·refine⟨rfl,rfl,Ext.refl _ _,0,_,Nt.nil _,λb hb=>by simp [Sl.nil,Sl.blk] at hb,om,⟨d,On.nt g15,rfl⟩,?_,by rw [if_neg h],?_⟩
     ·cases neg<;>simp<;>omega
     ·rw [if_neg h]
   rintro c' y2' y3' y4' y5' w19 ⟨rfl,rfl,e19,cv',c,hc',hcb',hcv',hIc,hc2,hcve,hce⟩;have hbc:sz c.natAbs≤16386:=Nat.le_trans (aq om) hszM;refine cl0 (num_Norm hIc om) ?_;intro r2 r3 w20 e20 hr;have hr:Io w20 w19.w.heap.size r2 r3 c:=hr;have e9e:=((((e10.trans e11).trans e12).trans e13).trans e14);have e920:=(e9.trans e9e).trans (e19.trans e20);have hneg':=hneg;obtain⟨q,hqd⟩:∃q:Int,q=(if z<0 then -((N/M^(j+1)+cv':Nat):Int) else (N/M^(j+1)+cv':Nat)):=⟨_,rfl⟩;have hmq:(M:Int)*(Q/M:Nat)+(Q%M:Nat)=Q:=by rw [←Int.natCast_mul,←Int.natCast_add,hQd]
   have hkey:z'=(M:Int)*q+c∧-(M:Int)<2*c∧2*c≤M:=by
    have hm1:(M:Int)*((Q/M+1:Nat):Int)=(M:Int)*(Q/M:Nat)+M:=by rw [Int.natCast_add,Int.mul_add];simp
    rw [hQn] at hqd;have hqn1:∀y:Int,(M:Int)*-y=-((M:Int)*y):=λy=>Int.mul_neg _ _
    by_cases hC:Lm<d∨(d=Lm∧neg=true)
    ·rw [if_pos hC] at hcve hce;subst hcve;rw [hqd,hz',hce];by_cases hzn:z<0
     ·have h3:neg=true:=by rw [hneg'];simpa using hzn
      rw [if_pos hzn,if_pos hzn,if_pos h3,hqn1,hm1];omega
     ·have h3:¬neg=true:=by rw [hneg'];simpa using hzn
      rw [if_neg hzn,if_neg hzn,if_neg h3,hm1];have:Lm<d:=hC.elim id λh=>absurd h.2 h3
      omega
    ·rw [if_neg hC] at hcve hce;subst hcve;rw [hqd,hz',hce,Nat.add_zero];by_cases hzn:z<0
     ·have h3:neg=true:=by rw [hneg'];simpa using hzn
      rw [if_pos hzn,if_pos hzn,if_pos h3,hqn1];have:¬(Lm<d∨d=Lm):=λh=>hC (h.imp id λh=>⟨h,h3⟩)
      omega
     ·have h3:¬neg=true:=by rw [hneg'];simpa using hzn
      rw [if_neg hzn,if_neg hzn,if_neg h3];omega
   obtain⟨k1,k2,k3⟩:=hkey;obtain⟨u1,u2⟩:=qV om k1 k2 k3;have hq2:=ab1 hM4 k1 k2 k3;have hbs:=acS hq2 om;refine (ho.ext e920).push (w0:=w6) (e7.trans e920) om hr.el (λhne c1 hc1=>⟨λhs=>?_,(Ow.from_ hr.1 c1 hc1).2⟩) λs8 w21 h21 e21 x21=>ab om om ⟨bl q.natAbs,om,rfl,rfl,j+1,cv',l++[c],q,om,rfl,by simp;omega,by simp [hlj],?_,hcv',hqd,λr hr'=>?_,h21,λi=>?_,e21⟩
   ·have h1:=Ow.blk_le hr.1 c1 hc1;have h2:=(ho.lt_blk c1 hs).2;have:=(e9.trans e9e).size;have:=e19.size;omega
   ·refine (hc'.ext e20).extX x21 λb hb h=>?_
    have h1:=hcb' b hb;have h2:=(ho.lt_blk b h).2;have:=(e9.trans e9e).size;omega
   ·rw [List.append_assoc];refine hun _ ?_;have:=Un.cons (M:=M) (z:=z') h0 (l:=r) (by rw [u1,u2];exact hr');rw [u1] at this;exact this
   ·rcases Nat.lt_trichotomy i l.length with hi|hi|hi
    ·rw [show (l++[c]).getD i 0=l.getD i 0 by simp [List.getD_eq_getElem?_getD,List.getElem?_append_left hi]];exact hlk i
    ·subst hi;rw [show (l++[c]).getD l.length 0=c by simp];refine aY ?_;rw [hMd];omega
    ·rw [List.getD_eq_getElem?_getD,List.getElem?_eq_none (by simp;omega)];simp [dX]
  ·have hz0:z'=0:=by simpa using h0
   refine⟨l,?_,ho.rq.ext e9,by rw [hN];omega,hlk,((e16.trans e7).trans e9)⟩;have:=hun [] (by rw [hz0];exact Un.nil);simpa using this
 rintro out w7 ⟨l,hu,hr,hl,hlk,e7⟩;have hM0:0<M:=om;have hl2:=hl;rw [hN] at hl2;refine c1 (polyz_Norm hr.ri om λi=>?_) λs w8 e8 h8=>?_
 ·have:=iq (fM (hlk i));omega
 rw [hu.trim hM0] at h8;exact rt1 (c:=.slice) _ (e7.trans e8) ⟨l,hu,h8.rq.at,hl,hlk⟩
end
section
variable {w:TW}
theorem uF(x:Nat):bl x≤64*sz x:=aY (by have:=gN x;rwa [show W64^sz x=2^(64*sz x) by rw [Nat.pow_mul]] at this)
theorem polyz_at{a:Sl}{zs:List Int}{i:Nat}(ha:Ri w a zs):Ct Pg F.jU [a.v,.int .i64 i] w aa [.agg [.slice,.bool]] λ(s:Sl)(n:Bool) w'=>Iz w' s n (zs.getD i 0):=by
 refine Ct.jU ?_;unfold Sh.jU;have na:=ha.len;intro w1 e1;refine ac (λh=>?_) (λh=>?_)
 ·refine (ha.here.ext e1).ix (j:=i) rfl om λad t ht _ k0 k1=>ldp k0 k1 ?_
  intro w2 e2;exact⟨(t.1,t.2,()),rfl,e1.trans e2,(ht.ext e2).at⟩
 ·intro w2 e2;refine⟨(Sl.nil,false,()),rfl,e1.trans e2,?_⟩;rw [List.getD_eq_getElem?_getD,List.getElem?_eq_none om];exact⟨0,Nt.nil _,rfl⟩
theorem wP{M:Nat}(hM:0<M):∀{l:List Int},(∀z∈l,-(M:Int)<2*z∧2*z≤M)→(∀z,l.getLast?=some z→z≠0)→Un M (ak (M:Int) l) l∧(ak (M:Int) l=0→l=[])
 | [],_,_=>⟨Un.nil,λ_=>rfl⟩
 | z::l,h,hl=>by
  have hz:=h z (List.mem_cons_self ..)
  have hl':∀y,l.getLast?=some y→y≠0:=λy hy=>by
   refine hl y ?_;cases l with
   | nil=>simp at hy
   | cons a l=>simpa using hy
  obtain⟨h1,h2⟩:=wP hM (l:=l) (λy hy=>h y (List.mem_cons_of_mem _ hy)) hl';have hp:ak (M:Int) (z::l)=(M:Int)*ak M l+z:=by show z+_=_;omega
  obtain⟨u1,u2⟩:=qV hM hp hz.1 hz.2
  have hne:ak (M:Int) (z::l)≠0:=λh0=>by
   rw [h0] at u1 u2;have hz0:z=0:=by rw [←u1];simp [sgd]
   have hp0:ak (M:Int) l=0:=by rw [←u2,hz0];simp
   have:=h2 hp0;subst this;exact hl z smp hz0
  refine⟨?_,λh0=>absurd h0 hne⟩;have:=Un.cons hne (l:=l) (by rw [u1,u2];exact h1);rwa [u1] at this
theorem aey{e:TypeId}{ts:List (Sl × Bool)}{n:Nat}{K:Nat→TW→Prop}(hn:ts.length=n)(hn2:n≤1099511627776)(hK:∀b w',Rdv w' 2 ⟨some ⟨b,0,none⟩,n,n⟩ (ts.flatMap iv)→Ext aa w w'→K b w'):nwb w (ts.flatMap iv) e K:=by
 intro b w' hw;refine hK b w' ⟨by rw [gx];show _=n*2;omega,Nat.le_refl _,by show n≤9223372036854775807;omega,λ_=>⟨b,0,rfl,λhV=>?_,λj v hj=>?_⟩⟩ (hw.ext _)
 ·rw [hw.V] at hV;have:=w.lt _ hV;have:=hw.at_;omega
 ·rw [cell_of_row w'.w b (0+j) _ e (0,0) hw.heap];simpa using hj
end
section
open Go.ChangeShapes Go.WideShapes Go.ChangeAt Go.RowKit
variable {H:Type} {P:Program} {W w:World} {base cap fuel len:Nat} {held:Bool} {t u:TypeId} {v:Value} {f0 f1:Field} {a:Option Addr}
def aay(w:World)(a:Option Addr)(len cap:Nat):Prop:=
 (a=none∧len=0∧cap=0)∨
 ∃(x:Addr) (A:Nat→Option Addr) (L C:Nat→Nat) (Z:Nat→List Int) (Bn:Nat→Bool),a=some x∧len≤cap∧cap≤maxLen∧
  ∀r,r<cap→w.cell? (x.add (r*2))=some (.slice (A r) (L r) (C r))∧w.cell? (x.add (r*2+1))=some (.bool (Bn r))∧ou .u64 w (A r) (L r) (C r) (Z r)
theorem qN{enc:TypeId × Value→H}{q:TypeId}{x:DataW H × List MemPlace}(hq:P.underlying q=some (.slice u))(hu:P.underlying u=some (.int .u64))(cu:P.cellsOf u=1)(h:DataW.trod enc P w base (λ_=>true) held fuel q [v]=some x):
  ∃a len cap zs,v=.slice a len cap∧ou .u64 w a len cap zs:=by
 rcases open_ints hq hu cu h with ⟨hcs,_⟩|⟨a,l,c,zs,hcs,_,hl,hm,hz,_,hcell,hwz⟩
 ·simp at hcs;exact⟨none,0,0,[],hcs,.inl ⟨rfl,rfl,rfl,rfl⟩⟩
 ·simp at hcs;exact⟨some a,l,c,zs,hcs,.inr ⟨_,rfl,hl,hm,by simpa using hz,hcell,hwz⟩⟩
theorem ad3{enc:TypeId × Value→H}{e:TypeId}{x:DataW H × List MemPlace}(ht:P.underlying t=some (.slice e))(he:P.underlying e=some (.struct #[f0,f1]))(ce:P.cellsOf e=2)(o0:f0.offset=0)(o1:f1.offset=1)(c0:P.cellsOf f0.type=1)(c1:P.cellsOf f1.type=1)(hq:P.underlying f0.type=some (.slice u))(hu:P.underlying u=some (.int .u64))(cu:P.cellsOf u=1)(hb:P.underlying f1.type=some .bool)(h:DataW.trod enc P w base (λ_=>true) held fuel t [.slice a len cap]=some x):aay w a len cap:=by
 rcases Go.Deep.open_slice_pairs ht he ce o0 o1 c0 c1 h with ⟨hcs,_⟩|⟨y,l,c,m,n,V0,V1,D0,D1,P0,P1,hcs,_,hl,hm,hmm,_,hr⟩
 ·simp at hcs;obtain⟨rfl,rfl,rfl⟩:=hcs;exact .inl ⟨rfl,rfl,rfl⟩
 ·simp at hcs;obtain⟨rfl,rfl,rfl⟩:=hcs;simp only [if_true] at hmm;subst hmm
  have each:∀r,∃y:Option Addr × Nat × Nat × List Int × Bool,r<m→V0 r=.slice y.1 y.2.1 y.2.2.1∧V1 r=.bool y.2.2.2.2∧ou .u64 w y.1 y.2.1 y.2.2.1 y.2.2.2.1:=λr=>by
   by_cases hrm:r<m
   ·obtain⟨g0,g1,g2,g3⟩:=hr r hrm;obtain⟨a',l',c',zs,e1,e2⟩:=qN hq hu cu g2;obtain⟨b,e3,_⟩:=DataW.trod_bool hb g3;exact⟨(a',l',c',zs,b),λ_=>⟨e1,by simpa using e3,e2⟩⟩
   ·exact⟨(none,0,0,[],false),λh=>absurd h hrm⟩
  refine .inr ⟨y,λr=>(Classical.choose (each r)).1,λr=>(Classical.choose (each r)).2.1,λr=>(Classical.choose (each r)).2.2.1,λr=>(Classical.choose (each r)).2.2.2.1,λr=>(Classical.choose (each r)).2.2.2.2,rfl,hl,hm,λr hrm=>?_⟩;obtain⟨e1,e2,e3⟩:=Classical.choose_spec (each r) hrm;obtain⟨g0,g1,_⟩:=hr r hrm;exact⟨by rw [g0,e1],by rw [g1,e2],e3⟩
theorem aem{H:Type}{enc:TypeId × Value→H}{b0:Nat}{r:Reach}{d:DataW H}{p:List MemPlace}(he:P.underlying t=some (.struct #[f0,f1]))(ce:P.cellsOf t=2)(o0:f0.offset=0)(o1:f1.offset=1)(c0:P.cellsOf f0.type=1)(c1:P.cellsOf f1.type=1)(hq:P.underlying f0.type=some (.slice u))(hu:P.underlying u=some (.int .u64))(cu:P.cellsOf u=1)(hb:P.underlying f1.type=some .bool)(hv:Value.okWide P w r b0 t v)(h:DataW.Trod enc P w base (λ_=>true) held t v d p):∃a len cap zs n,v=.agg #[.slice a len cap,.bool n]∧ou .u64 w a len cap zs:=by
 obtain⟨cs,rfl,hsz⟩:=okWide_struct he hv;obtain⟨fuel,hh⟩:=h;obtain⟨ys,n,_,_,_,hyl,hf⟩:=DataW.trod_struct he hh;rw [ce] at hsz;obtain⟨xs,rfl⟩:∃xs,cs=List.toArray xs:=⟨cs.toList,smp⟩;match ys,hyl,xs,hsz with
 | [y0,y1],_,[v0,v1],_=>
  have g0:=hf 0 f0 rfl;have g1:=hf 1 f1 rfl;simp [Value.cells,o0,o1,c0,c1] at g0 g1;obtain⟨a,l,c,zs,e1,e2⟩:=qN hq hu cu g0;obtain⟨b,e3,_⟩:=DataW.trod_bool hb g1;simp at e3;subst e1 e3;exact⟨a,l,c,zs,b,rfl,e2⟩
theorem acU{zs:List Int}{n:Bool}(h:ou .u64 W a len cap zs):∃z,Iz (TW.of W) ⟨a,len,cap⟩ n z:=by
 obtain⟨l,hl⟩:=aax h;exact⟨_,vl W64 l,hl.nt,rfl⟩
theorem aeL(h:aay W a len cap):∃zs,Ri (TW.of W) ⟨a,len,cap⟩ zs:=by
 rcases h with ⟨rfl,rfl,rfl⟩|⟨x,A,L,C,Z,Bn,rfl,hl,hc,hr⟩
 ·exact⟨[],[],⟨rfl,Nat.le_refl _,dcd,λh=>absurd rfl h⟩,rfl,λi h=>by simp at h⟩
 ·have hrow:∀r,∃z,r<len→Iz (TW.of W) ⟨A r,L r,C r⟩ (Bn r) z:=λr=>by
   by_cases h:r<len
   ·obtain⟨z,hz⟩:=acU (n:=Bn r) (hr r om).2.2;exact⟨z,λ_=>hz⟩
   ·exact⟨0,λh'=>absurd h' h⟩
  obtain⟨ts,hts⟩:∃ts:List (Sl × Bool),ts=(List.range len).map λr=>(⟨A r,L r,C r⟩,Bn r):=⟨_,rfl⟩
  have htl:ts.length=len:=by rw [hts];simp
  refine⟨(List.range len).map λr=>Classical.choose (hrow r),ts,⟨by rw [gx,htl];show _=len*2;omega,hl,hc,λhne=>?_⟩,by simp [htl],λi hi=>?_⟩
  ·have hpos:0<len:=by
    rcases Nat.eq_zero_or_pos len with h|h
    ·exfalso;apply hne;have:ts=[]:=List.length_eq_zero_iff.1 om;rw [this];rfl
    ·exact h
   have h0:=(hr 0 om).1;have hspot:=qi h0;obtain⟨b,o,sp⟩:=x;rw [show (Addr.add ⟨b,o,sp⟩ (0*2))=⟨b,o,sp⟩ by rfl] at hspot;simp only at hspot;subst hspot;refine⟨b,o,rfl,λh=>h,λj v hj=>?_⟩
   have hjl:j<2*len:=by
    have:=(List.getElem?_eq_some_iff.1 hj).1;rw [gx,htl] at this;exact this
   have hi2:j/2<ts.length:=om;obtain⟨k0,k1⟩:=qe hi2;obtain⟨c0,c1,_⟩:=hr (j/2) om;rw [eX] at c0 c1;have hel:ts[j/2]=(⟨A (j/2),L (j/2),C (j/2)⟩,Bn (j/2)):=by simp [hts]
   rw [hel] at k0 k1;rcases Nat.mod_two_eq_zero_or_one j with hm|hm
   ·rw [show j=2*(j/2) by omega,k0] at hj;cases hj;rw [show o+j=o+j/2*2 by omega];exact c0
   ·rw [show j=2*(j/2)+1 by omega,k1] at hj;cases hj;rw [show o+j=o+(j/2*2+1) by omega];exact c1
  ·have:=Classical.choose_spec (hrow i) om;have hel:ts[i]=(⟨A i,L i,C i⟩,Bn i):=by simp [hts]
   rw [hel]
   have hg:((List.range len).map λr=>Classical.choose (hrow r)).getD i 0=Classical.choose (hrow i):=by
    rw [List.getD_eq_getElem?_getD,List.getElem?_map,List.getElem?_range om];rfl
   rw [hg];exact this
end
end Go.Proofs.YtpbimnlggalnfaaGreatDoor.Zg
