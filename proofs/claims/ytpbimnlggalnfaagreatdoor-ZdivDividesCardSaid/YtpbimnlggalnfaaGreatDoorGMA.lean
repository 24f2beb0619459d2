/- A part of the proofs of this seat's laws. -/
import Derived.Test.YtpbimnlggalnfaaGreatDoorGC
import Derived.Test.YtpbimnlggalnfaaGreatDoorGK
import Derived.Test.YtpbimnlggalnfaaGreatDoorGP
import Derived.Test.YtpbimnlggalnfaaGreatDoorGQ
import Derived.Test.YtpbimnlggalnfaaGreatDoorGIA
import Derived.Test.YtpbimnlggalnfaaGreatDoorGP1
import Derived.Test.YtpbimnlggalnfaaGreatDoorGP3
set_option linter.unusedVariables false
set_option linter.unusedSimpArgs false
set_option linter.unnecessarySimpa false
namespace Go.Proofs.YtpbimnlggalnfaaGreatDoor.Zg
open Go.RowKit
section
variable {p u v w x y:Int} {L n:Nat}
def cg(p x y:Int):Prop:=∃k,x=y+p*k
theorem cg.rfl':cg p x x:=⟨0,smp⟩
theorem cg.of(h:x=y):cg p x y:=h▸cg.rfl'
theorem cg.symm:cg p x y→cg p y x:=λ⟨k,h⟩=>⟨-k,by rw [h];grind⟩
theorem cg.trans{z:Int}:cg p x y→cg p y z→cg p x z:=λ⟨k,h⟩ ⟨l,g⟩=>⟨k+l,by rw [h,g];grind⟩
theorem cg.add:cg p x y→cg p u v→cg p (x+u) (y+v):=λ⟨k,h⟩ ⟨l,g⟩=>⟨k+l,by rw [h,g];grind⟩
theorem cg.sub:cg p x y→cg p u v→cg p (x-u) (y-v):=λ⟨k,h⟩ ⟨l,g⟩=>⟨k-l,by rw [h,g];grind⟩
theorem cg.neg:cg p x y→cg p (-x) (-y):=λ⟨k,h⟩=>⟨-k,by rw [h];grind⟩
theorem cg.mul:cg p x y→cg p u v→cg p (x*u) (y*v):=λ⟨k,h⟩ ⟨l,g⟩=>⟨k*v+y*l+p*k*l,by rw [h,g];grind⟩
theorem cg.pow{p x y:Int}(h:cg p x y):∀n:Nat,cg p (x^n) (y^n)
 | 0=>cg.of (by rw [Int.pow_zero,Int.pow_zero])
 | n+1=>by rw [Int.pow_succ,Int.pow_succ];exact (cg.pow h n).mul h
theorem pY:∀k:Nat,(1:Int)^k=1
 | 0=>rfl
 | k+1=>by rw [Int.pow_succ,pY k];rfl
theorem aaf(k:Nat):(-1:Int)^(2*k)=1:=by rw [Int.pow_mul];exact pY k
theorem cg.nat{p x y:Nat}(h:cg p x y)(hx:x<p)(hy:y<p):x=y:=by
 obtain⟨k,h⟩:=h;have h1:((x:Int)%p)=(y:Int)%p:=by rw [h,Int.add_mul_emod_self_left]
 rw [Int.emod_eq_of_lt om om,Int.emod_eq_of_lt om om] at h1;omega
theorem cg.mod{p x:Nat}:cg p ((x%p:Nat):Int) x:=⟨-((x/p:Nat):Int),by
 have:=Nat.div_add_mod x p;have h:(x:Int)=(p:Int)*(x/p:Nat)+(x%p:Nat):=by rw [←Int.natCast_mul,←Int.natCast_add,this]
 rw [h];grind⟩
def Sg:Nat→(Nat→Int)→Int
 | 0,_=>0
 | n+1,f=>Sg n f+f n
theorem Sg.cg{p:Int}{f g:Nat→Int}:∀{n:Nat},(∀k,k<n→cg p (f k) (g k))→Go.Proofs.YtpbimnlggalnfaaGreatDoor.Zg.cg p (Sg n f) (Sg n g)
 | 0,_=>cg.rfl'
 | n+1,h=>(Sg.cg λk hk=>h k om).add (h n om)
theorem Sg.congr{f g:Nat→Int}:∀{n:Nat},(∀k,k<n→f k=g k)→Sg n f=Sg n g
 | 0,_=>rfl
 | n+1,h=>by rw [Sg,Sg,Sg.congr λk hk=>h k om,h n om]
theorem Sg.add(f g:Nat→Int):∀n,Sg n (λk=>f k+g k)=Sg n f+Sg n g
 | 0=>rfl
 | n+1=>by rw [Sg,Sg,Sg,Sg.add f g n];grind
theorem Sg.mul(c:Int)(f:Nat→Int):∀n,Sg n (λk=>c*f k)=c*Sg n f
 | 0=>by simp [Sg]
 | n+1=>by rw [Sg,Sg,Sg.mul c f n];grind
theorem Sg.zero:∀n,Sg n (λ_=>0)=0
 | 0=>rfl
 | n+1=>by rw [Sg,Sg.zero n];rfl
theorem Sg.const(c:Int):∀n,Sg n (λ_=>c)=n*c
 | 0=>by simp [Sg]
 | n+1=>by rw [Sg,Sg.const c n];grind
theorem Sg.swap(f:Nat→Nat→Int)(n:Nat):∀m,Sg m (λi=>Sg n (f i))=Sg n (λj=>Sg m (λi=>f i j))
 | 0=>by rw [show (λj=>Sg 0 λi=>f i j)=λ_=>(0:Int) from rfl,Sg.zero];rfl
 | m+1=>by
  rw [Sg,Sg.swap f n m,←Sg.add];rfl
theorem Sg.split(f:Nat→Int)(m:Nat):∀n,Sg (m+n) f=Sg m f+Sg n (λk=>f (m+k))
 | 0=>by simp [Sg]
 | n+1=>by rw [←Nat.add_assoc,Sg,Sg.split f m n,Sg];grind
theorem Sg.two(f:Nat→Int):∀n,Sg (2*n) f=Sg n (λk=>f (2*k))+Sg n (λk=>f (2*k+1))
 | 0=>rfl
 | n+1=>by rw [show 2*(n+1)=2*n+1+1 by omega,Sg,Sg,Sg.two f n,Sg,Sg];grind
def Tf(a:Nat→Int)(w:Int)(n r m j:Nat):Int:=Sg n λk=>a (r+k*m)*w^(j*k*m)
theorem Tf.low(a:Nat→Int)(w:Int)(n r m j:Nat):Tf a w (2*n) r m j=Tf a w n r (2*m) j+w^(j*m)*Tf a w n (r+m) (2*m) j:=by
 unfold Tf;rw [Sg.two,←Sg.mul];congr 1
 ·exact Sg.congr λk _=>by rw [show 2*k*m=k*(2*m) by grind,show j*(2*k)*m=j*k*(2*m) by grind]
 ·exact Sg.congr λk _=>by
   rw [show r+(2*k+1)*m=r+m+k*(2*m) by grind,show j*(2*k+1)*m=j*m+j*k*(2*m) by grind,Int.pow_add];grind
theorem Tf.high{a:Nat→Int}{r m j:Nat}(hw:cg p (w^(n*m)) (-1)):cg p (Tf a w (2*n) r m (j+n)) (Tf a w n r (2*m) j-w^(j*m)*Tf a w n (r+m) (2*m) j):=by
 have h1:∀k:Nat,cg p ((w^(n*(2*m)))^k) 1:=λk=>by
  have:w^(n*(2*m))=w^(n*m)*w^(n*m):=by rw [←Int.pow_add];congr 1;grind
  rw [this];have h2:=((hw.mul hw).pow k);rw [show ((-1:Int)*-1)=1 from rfl,pY] at h2;exact h2
 rw [Tf.low]
 have e:∀r',cg p (Tf a w n r' (2*m) (j+n)) (Tf a w n r' (2*m) j):=λr'=>by
  unfold Tf;refine Sg.cg λk _=>cg.rfl'.mul ?_
  rw [show (j+n)*k*(2*m)=j*k*(2*m)+n*(2*m)*k by grind,Int.pow_add,show w^(n*(2*m)*k)=(w^(n*(2*m)))^k from Int.pow_mul ..];have:=(cg.rfl' (p:=p) (x:=w^(j*k*(2*m)))).mul (h1 k);rwa [Int.mul_one] at this
 have f:cg p (w^((j+n)*m)) (-(w^(j*m))):=by
  rw [show (j+n)*m=j*m+n*m by grind,Int.pow_add];have:=(cg.rfl' (p:=p) (x:=w^(j*m))).mul hw;simpa using this
 have:=(e r).add (f.mul (e (r+m)));refine this.trans (cg.of ?_);grind
theorem vJ{p g:Int}{h:Nat}(hg:cg p (g^h) (-1)):∀n,cg p (Sg (n*(2*h)) λj=>g^j) 0
 | 0=>by rw [Nat.zero_mul];exact cg.rfl'
 | n+1=>by
  rw [Nat.succ_mul,Sg.split]
  have h1:cg p (Sg (2*h) λk=>g^(n*(2*h)+k)) 0:=by
   rw [Nat.two_mul,Sg.split]
   have e:Sg h (λk=>g^(n*(h+h)+(h+k)))=g^h*Sg h (λk=>g^(n*(h+h)+k)):=by
    rw [←Sg.mul];exact Sg.congr λk _=>by rw [←Int.pow_add];congr 1;omega
   rw [e];have:=(cg.rfl' (p:=p) (x:=Sg h λk=>g^(n*(h+h)+k))).add (hg.mul (cg.rfl' (p:=p) (x:=Sg h λk=>g^(n*(h+h)+k))));refine this.trans (cg.of ?_);grind
  exact ((vJ hg n).add h1).trans (cg.of smp)
theorem acp(h:n%2=1):(-1:Int)^n=-1:=by
 obtain⟨k,rfl⟩:∃k,n=2*k+1:=⟨n/2,om⟩;rw [Int.pow_succ,aaf];rfl
theorem oC:∀(L e:Nat),e%2^L≠0→∃t q,t<L∧e=2^t*q∧q%2=1
 | 0,e,h=>absurd (Nat.mod_one e) h
 | L+1,e,h=>by
  by_cases ho:e%2=1
  ·exact⟨0,e,om,smp,ho⟩
  ·obtain⟨f,rfl⟩:∃f,e=2*f:=⟨e/2,om⟩;have:f%2^L≠0:=λh0=>h (by rw [Nat.pow_succ,Nat.mul_comm (2^L) 2,Nat.mul_mod_mul_left,h0])
   obtain⟨t,q,ht,rfl,hq⟩:=oC L f this;exact⟨t+1,q,om,by rw [Nat.pow_succ];grind,hq⟩
theorem aaK(hw:cg p (w^2^L) (-1))(e:Nat):cg p (Sg (2^(L+1)) λj=>w^(j*e)) (if e%2^(L+1)=0 then (2^(L+1):Nat) else 0):=by
 split
 ·rename_i h;obtain⟨q,rfl⟩:∃q,e=2^(L+1)*q:=⟨e/2^(L+1),by have:=Nat.div_add_mod e (2^(L+1));omega⟩
  have h1:∀j,cg p (w^(j*(2^(L+1)*q))) 1:=λj=>by
   rw [show j*(2^(L+1)*q)=2^L*(2*(q*j)) by rw [Nat.pow_succ];grind,Int.pow_mul];have:=hw.pow (2*(q*j));rwa [aaf] at this
  refine (Sg.cg (g:=λ_=>1) λj _=>h1 j).trans (cg.of ?_);rw [Sg.const];simp
 ·rename_i h;obtain⟨t,q,ht,rfl,hq⟩:=oC (L+1) e h
  have hh:cg p ((w^(2^t*q))^2^(L-t)) (-1):=by
   rw [←Int.pow_mul,show 2^t*q*2^(L-t)=2^L*q by rw [Nat.mul_right_comm,←Nat.pow_add];congr 2;omega,Int.pow_mul];have:=hw.pow q;rwa [acp hq] at this
  have:=vJ hh (2^t);rw [show 2^t*(2*2^(L-t))=2^(L+1) by rw [Nat.mul_left_comm,←Nat.pow_add,Nat.pow_succ,Nat.mul_comm 2];congr 2;omega] at this;refine (cg.of (Sg.congr λj _=>?_)).trans this;rw [←Int.pow_mul,Nat.mul_comm j]
theorem acQ{back part:Int}(hw:cg p (w^2^L) (-1))(hb:cg p (w*back) 1)(hp:cg p (part*(2^(L+1):Nat)) 1)(a b:Nat→Int){i:Nat}(hi:i≤2^(L+1)):
  cg p (part*Sg (2^(L+1)) λj=>(Tf a w (2^(L+1)) 0 1 j*Tf b w (2^(L+1)) 0 1 j)*back^(i*j)) (Sg (2^(L+1)) λu=>Sg (2^(L+1)) λv=>if (u+v+2^(L+1)-i)%2^(L+1)=0 then a u*b v else 0):=by
 obtain⟨N,hN⟩:∃N,2^(L+1)=N:=⟨_,rfl⟩
 have hwN:cg p (w^N) 1:=by
  rw [←hN,Nat.pow_succ,Int.pow_mul];have:=hw.pow 2;rwa [show (-1:Int)^2=1 from rfl] at this
 have hback:∀j,cg p (back^(i*j)) (w^((N-i)*j)):=λj=>by
  rw [Int.pow_mul,Int.pow_mul];refine cg.pow ?_ j;have h1:=(cg.rfl' (p:=p) (x:=w^(N-i))).mul (hb.pow i);rw [show (w*back)^i=w^i*back^i from Int.mul_pow ..,←Int.mul_assoc,←Int.pow_add,Nat.sub_add_cancel om] at h1;have h2:=hwN.mul (cg.rfl' (p:=p) (x:=back^i));have h3:=h2.symm.trans h1;rwa [Int.one_mul,pY,Int.mul_one] at h3
 rw [hN] at hp ⊢
 have hterm:∀j,Tf a w N 0 1 j*Tf b w N 0 1 j=Sg N λu=>Sg N λv=>a u*b v*w^(j*(u+v)):=λj=>by
  unfold Tf;simp only [Nat.zero_add,Nat.mul_one];rw [Int.mul_comm,←Sg.mul];refine Sg.congr λu _=>?_
  rw [Int.mul_comm,←Sg.mul];refine Sg.congr λv _=>?_
  rw [Nat.mul_add,Int.pow_add];grind
 have hrow:cg p (Sg N λj=>(Tf a w N 0 1 j*Tf b w N 0 1 j)*back^(i*j)) (Sg N λu=>Sg N λv=>a u*b v*Sg N λj=>w^(j*(u+v+N-i))):=by
  have e1:(Sg N λu=>Sg N λv=>a u*b v*Sg N λj=>w^(j*(u+v+N-i)))=Sg N λj=>Sg N λu=>Sg N λv=>a u*b v*w^(j*(u+v+N-i)):=by
   rw [Sg.swap (λj u=>Sg N λv=>a u*b v*w^(j*(u+v+N-i))) N N];refine Sg.congr λu _=>?_
   rw [Sg.swap (λj v=>a u*b v*w^(j*(u+v+N-i))) N N];refine Sg.congr λv _=>?_
   rw [←Sg.mul]
  rw [e1];refine Sg.cg λj _=>?_
  rw [hterm];refine (cg.rfl'.mul (hback j)).trans (cg.of ?_);rw [Int.mul_comm,←Sg.mul];refine Sg.congr λu _=>?_
  rw [←Sg.mul];refine Sg.congr λv _=>?_
  rw [show j*(u+v+N-i)=j*(u+v)+(N-i)*j by rw [show u+v+N-i=u+v+(N-i) by omega];grind,Int.pow_add];grind
 refine (cg.rfl'.mul hrow).trans ?_;rw [←Sg.mul];refine Sg.cg λu _=>?_
 rw [←Sg.mul];refine Sg.cg λv _=>?_
 have hs:=aaK hw (u+v+N-i);rw [hN] at hs;by_cases h:(u+v+N-i)%N=0
 ·rw [if_pos h] at hs ⊢;have h1:=((cg.rfl' (p:=p) (x:=a u*b v)).mul hs);have h2:=(cg.rfl' (p:=p) (x:=part)).mul h1;refine h2.trans ?_;have h3:=(cg.rfl' (p:=p) (x:=a u*b v)).mul hp;rw [Int.mul_one] at h3;refine (cg.of ?_).trans h3;grind
 ·rw [if_neg h] at hs ⊢;have h1:=(cg.rfl' (p:=p) (x:=part)).mul ((cg.rfl' (p:=p) (x:=a u*b v)).mul hs);simpa using h1
end
section
variable {n x:Nat}
def rv:Nat→Nat→Nat
 | 0,_=>0
 | n+1,x=>(x%2)*2^n+rv n (x/2)
theorem oW:∀(n x:Nat),rv n x<2^n
 | 0,_=>Nat.one_pos
 | n+1,x=>by
  have:=oW n (x/2);show x%2*2^n+rv n (x/2)<2^(n+1);rw [Nat.pow_succ];rcases Nat.mod_two_eq_zero_or_one x with h|h<;>rw [h]<;>omega
theorem aca(n b:Nat):rv (n+1) (2*b)=rv n b:=by
 show 2*b%2*2^n+rv n (2*b/2)=_;rw [show 2*b%2=0 by omega,show 2*b/2=b by omega];omega
theorem ac4(n b:Nat):rv (n+1) (2*b+1)=rv n b+2^n:=by
 show (2*b+1)%2*2^n+rv n ((2*b+1)/2)=_;rw [show (2*b+1)%2=1 by omega,show (2*b+1)/2=b by omega];omega
theorem oE:∀(n x i:Nat),i<n→(rv n x).testBit i=x.testBit (n-1-i)
 | 0,_,_,h=>by omega
 | n+1,x,i,h=>by
  show (x%2*2^n+rv n (x/2)).testBit i=_;have hl:=oW n (x/2);rw [Nat.mul_comm,Nat.testBit_two_pow_mul_add _ hl];split
  ·rename_i hi;rw [oE n (x/2) i hi,Nat.testBit_div_two,show n+1-1-i=n-1-i+1 by omega]
  ·have:i=n:=om;subst this;rw [Nat.sub_self,show i+1-1-i=0 by omega];simp [Nat.testBit_zero]
theorem abP(h:x<2^n):rv n (rv n x)=x:=by
 refine Nat.eq_of_testBit_eq λi=>?_
 by_cases hi:i<n
 ·rw [oE _ _ _ hi,oE _ _ _ om];congr 1;omega
 ·rw [Nat.testBit_lt_two_pow (Nat.lt_of_lt_of_le (oW n _) (Nat.pow_le_pow_right dcd om)),Nat.testBit_lt_two_pow (Nat.lt_of_lt_of_le h (Nat.pow_le_pow_right dcd om))]
theorem aaJ(hn:n≤64)(h:x<2^n):rv 64 x/2^(64-n)=rv n x:=by
 refine Nat.eq_of_testBit_eq λi=>?_
 rw [←Nat.shiftRight_eq_div_pow,Nat.testBit_shiftRight];by_cases hi:i<n
 ·rw [oE _ _ _ om,oE _ _ _ hi];congr 1;omega
 ·rw [Nat.testBit_lt_two_pow (Nat.lt_of_lt_of_le (oW n _) (Nat.pow_le_pow_right dcd om)),Nat.testBit_lt_two_pow];exact Nat.lt_of_lt_of_le (oW 64 x) (Nat.pow_le_pow_right dcd om)
theorem nj{m s:Nat}{k:Nat}(hx:x<2^64)(hs:s=2^k)(hm:∀i,i<64→m.testBit i=!(i.testBit k))(hk:∀i,i<64→(i.testBit k=true→i-s=i ^^^ s∧s≤i)∧(i.testBit k=false→i+s=i ^^^ s∧i+s<64)){i:Nat}(hi:i<64):((x/2^s &&& m) ||| ((x &&& m)*2^s%2^64)).testBit i=x.testBit (i ^^^ s):=by
 rw [Nat.testBit_or,Nat.testBit_and,←Nat.shiftRight_eq_div_pow,Nat.testBit_shiftRight,Nat.testBit_mod_two_pow,←Nat.shiftLeft_eq,Nat.testBit_shiftLeft,Nat.testBit_and,hm i hi];obtain⟨h1,h2⟩:=hk i hi;cases hb:i.testBit k with
 | true=>
  obtain⟨h3,h4⟩:=h1 hb
  have h5:m.testBit (i-s)=true:=by
   rw [hm _ om,h3,hs,Nat.testBit_xor,hb,Nat.testBit_two_pow_self];rfl
  rw [h5,←h3];simp [hi,h4]
 | false=>
  obtain⟨h3,h4⟩:=h2 hb
  have h5:¬(s≤i∧m.testBit (i-s)=true):=λ⟨h6,h7⟩=>by
   rw [hm _ om] at h7;have h8:=(hk (i-s) om).2 (by simpa using h7);have h9:(i-s) ^^^ s=i:=by rw [←h8.1];omega
   have h10:=congrArg (λy=>y.testBit k) h9;simp only [Nat.testBit_xor,hs,Nat.testBit_two_pow_self] at h10;rw [hs] at h7;rw [hb] at h10;simp at h10 h7;rw [h7] at h10;cases h10
  rw [←h3,Nat.add_comm];simp only [hi,decide_true,Bool.not_false,Bool.and_true,Bool.true_and];cases hq:(decide (s≤i)&&(x.testBit (i-s)&&m.testBit (i-s))) with
  | false=>simp
  | true=>
   exfalso;simp only [Bool.and_eq_true,decide_eq_true_eq] at hq;exact h5 ⟨hq.1,hq.2.2⟩
end
section
variable {m s x:Nat} {w:TW}
theorem adT{y i:Nat}(hy:y<2^64)(hi:i<64):(y/2^32 ||| y*2^32%2^64).testBit i=y.testBit (i ^^^ 32):=by
 rw [Nat.testBit_or,←Nat.shiftRight_eq_div_pow,Nat.testBit_shiftRight,Nat.testBit_mod_two_pow,←Nat.shiftLeft_eq,Nat.testBit_shiftLeft];have key:∀i,i<64→(i<32→i ^^^ 32=32+i)∧(32≤i→i ^^^ 32=i-32):=dcd;obtain⟨k1,k2⟩:=key i hi;by_cases h:i<32
 ·rw [k1 h];simp [hi,show ¬32≤i by omega]
 ·rw [k2 om];have:y.testBit (32+i)=false:=Nat.testBit_lt_two_pow (Nat.lt_of_lt_of_le hy (Nat.pow_le_pow_right (show 2>0 by decide) (show 64≤32+i by omega)));simp [this,hi,show 32≤i by omega]
theorem adY(hm:m<2^64):(x/2^s &&& m) ||| ((x &&& m)*2^s%2^64)<2^64:=
 Nat.or_lt_two_pow (Nat.lt_of_le_of_lt Nat.and_le_right hm) (Nat.mod_lt _ dcd)
theorem swK{X S M M' S':Int}(hX:X=x)(hS:S=s)(hS':S'=s)(hM:M=m)(hM':M'=m)(hs:s≤64)(hx:x<W64)(hm:m<W64){K:Int→Prop}(hK:∀y:Nat,y=((x/2^s &&& m) ||| ((x &&& m)*2^s%2^64))→y<W64→K y):
  gJ .u64 X S λn=>bnd (bg .and .u64 n M) λn1=>bnd (bg .and .u64 X M') λn2=>jv .u64 n2 S' λn3=>bnd (bg .or .u64 n1 n3) K:=by
 subst hX;refine jC rfl hS hs (qE rfl hM (Nat.lt_of_le_of_lt (Nat.div_le_self _ _) hx) hm (qE rfl hM' hx hm (oy rfl hS' hs ?_)));refine sM rfl rfl (Nat.lt_of_le_of_lt Nat.and_le_right hm) (Nat.mod_lt _ dcd) (hK _ rfl ?_);exact adY hm
theorem bits_ReverseBytes64(hx:x<W64):Ct Pg F.cB [.int .u64 x] w aa [.one (.int .u64)] λ(r:Int) _=>∃y:Nat,r=y∧y<W64∧∀i,i<64→y.testBit i=x.testBit (i ^^^ 56):=by
 refine Ct.cB ?_;unfold Sh.cB;refine swK (s:=8) (m:=71777214294589695) rfl rfl rfl rfl rfl dcd hx dcd λy1 h1 l1=>?_
 refine swK (s:=16) (m:=281470681808895) rfl rfl rfl rfl rfl dcd l1 dcd λy2 h2 l2=>?_
 refine jC (n:=32) rfl rfl dcd (oy (n:=32) rfl rfl dcd (sM rfl rfl (Nat.lt_of_le_of_lt (Nat.div_le_self _ _) l2) (Nat.mod_lt _ dcd) ?_));refine rt1 (c:=.int .u64) _ (Ext.refl _ _) ⟨_,rfl,Nat.or_lt_two_pow (n:=64) (Nat.lt_of_le_of_lt (Nat.div_le_self _ _) l2) (Nat.mod_lt _ dcd),λi hi=>?_⟩;have b3:=adT l2 hi;show (y2/2^32 ||| y2*2^32%2^64).testBit i=_;rw [b3];have x1:∀i,i<64→i ^^^ 32<64:=dcd;have x2:∀i,i<64→i ^^^ 32 ^^^ 16<64:=dcd;have x3:∀i,i<64→i ^^^ 32 ^^^ 16 ^^^ 8=i ^^^ 56:=dcd;have b2:=nj (s:=16) (k:=4) (m:=281470681808895) l1 dcd dcd dcd (x1 i hi);rw [←h2] at b2;have b1:=nj (s:=8) (k:=3) (m:=71777214294589695) hx dcd dcd dcd (x2 i hi);rw [←h1] at b1;rw [b2,b1,x3 i hi]
theorem bits_Reverse64(hx:x<W64):Ct Pg F.fP [.int .u64 x] w aa [.one (.int .u64)] λ(r:Int) _=>r=(rv 64 x:Nat):=by
 refine Ct.fP ?_;unfold Sh.fP;refine swK (s:=1) (m:=6148914691236517205) rfl rfl rfl rfl rfl dcd hx dcd λy1 h1 l1=>?_
 refine swK (s:=2) (m:=3689348814741910323) rfl rfl rfl rfl rfl dcd l1 dcd λy2 h2 l2=>?_
 refine swK (s:=4) (m:=1085102592571150095) rfl rfl rfl rfl rfl dcd l2 dcd λy3 h3 l3=>?_
 refine c1 (bits_ReverseBytes64 l3) ?_;rintro r w1 e1 ⟨y,rfl,hy,hb⟩;refine rt1 (c:=.int .u64) _ e1 ?_
 have:y=rv 64 x:=by
  refine Nat.eq_of_testBit_eq λi=>?_
  by_cases hi:i<64
  ·have x1:∀i,i<64→i ^^^ 56<64∧i ^^^ 56 ^^^ 4<64∧i ^^^ 56 ^^^ 4 ^^^ 2<64∧i ^^^ 56 ^^^ 4 ^^^ 2 ^^^ 1=64-1-i:=dcd;obtain⟨k1,k2,k3,k4⟩:=x1 i hi;have b3:=nj (s:=4) (k:=2) (m:=1085102592571150095) l2 dcd dcd dcd k1;rw [←h3] at b3;have b2:=nj (s:=2) (k:=1) (m:=3689348814741910323) l1 dcd dcd dcd k2;rw [←h2] at b2;have b1:=nj (s:=1) (k:=0) (m:=6148914691236517205) hx dcd dcd dcd k3;rw [←h1] at b1;rw [hb i hi,b3,b2,b1,k4,oE 64 x i hi]
  ·rw [Nat.testBit_lt_two_pow (Nat.lt_of_lt_of_le hy (Nat.pow_le_pow_right (show 2>0 by decide) (show 64≤i by omega))),Nat.testBit_lt_two_pow (Nat.lt_of_lt_of_le (oW 64 x) (Nat.pow_le_pow_right (show 2>0 by decide) (show 64≤i by omega)))]
 rw [this]
end
section
variable {N i n:Nat}
def lev(x:Nat→Int)(w:Int)(n s i:Nat):Int:=Tf x w (2^s) (rv (n-s) (i/2^s)) (2^(n-s)) (i%2^s)
theorem aa7(x:Nat→Int)(w:Int)(n i:Nat):lev x w n 0 i=x (rv n i):=by
 unfold lev Tf;simp [Sg,Nat.mod_one]
theorem aa9(x:Nat→Int)(w:Int)(hi:i<2^n):lev x w n n i=Tf x w (2^n) 0 1 i:=by
 unfold lev;rw [Nat.sub_self,Nat.div_eq_of_lt hi,Nat.mod_eq_of_lt hi];rfl
theorem sh(s q j:Nat)(hj:j<2^s):(q*2^s+j)/2^s=q∧(q*2^s+j)%2^s=j:=by
 have h0:=Nat.two_pow_pos s;constructor
 ·rw [Nat.mul_comm,Nat.mul_add_div h0,Nat.div_eq_of_lt hj,Nat.add_zero]
 ·rw [Nat.mul_comm,Nat.mul_add_mod,Nat.mod_eq_of_lt hj]
theorem aa8{p:Int}{x:Nat→Int}{w:Int}{s q j:Nat}(hs:s<n)(hj:j<2^s)(hw:cg p (w^2^(n-1)) (-1)):
  lev x w n (s+1) (q*2^(s+1)+j)=lev x w n s (q*2^(s+1)+j)+w^(j*2^(n-s-1))*lev x w n s (q*2^(s+1)+j+2^s)∧
  cg p (lev x w n (s+1) (q*2^(s+1)+j+2^s)) (lev x w n s (q*2^(s+1)+j)-w^(j*2^(n-s-1))*lev x w n s (q*2^(s+1)+j+2^s)):=by
 obtain⟨k,hk⟩:∃k,n-s-1=k:=⟨_,rfl⟩;have e1:q*2^(s+1)+j=(2*q)*2^s+j:=by rw [Nat.pow_succ];grind
 have e2:q*2^(s+1)+j+2^s=(2*q+1)*2^s+j:=by rw [Nat.pow_succ];grind
 have h2:2^(s+1)=2*2^s:=by rw [Nat.pow_succ,Nat.mul_comm]
 obtain⟨a1,a2⟩:=sh (s+1) q j om;obtain⟨b1,b2⟩:=sh (s+1) q (j+2^s) om;obtain⟨c1,c2⟩:=sh s (2*q) j hj;obtain⟨d1,d2⟩:=sh s (2*q+1) j hj;rw [←Nat.add_assoc] at b1 b2;unfold lev;rw [a1,a2,b1,b2,e2,d1,d2,e1,c1,c2,show n-(s+1)=k by omega,show n-s=k+1 by omega,Nat.add_sub_cancel,aca,ac4,h2,show 2^(k+1)=2*2^k by rw [Nat.pow_succ,Nat.mul_comm]];refine⟨Tf.low x w (2^s) (rv k q) (2^k) j,Tf.high ?_⟩;rw [←Nat.pow_add,show s+k=n-1 by omega];exact hw
def sgN:Nat→(Nat→Nat)→Nat
 | 0,_=>0
 | n+1,f=>sgN n f+f n
theorem qo(f:Nat→Nat):∀n,((sgN n f:Nat):Int)=Sg n λk=>(f k:Int)
 | 0=>rfl
 | n+1=>by rw [sgN,Sg,←qo f n];simp
theorem nk(f:Nat→Nat):∀n,sgN (n+1) f=f 0+sgN n λk=>f (k+1)
 | 0=>by simp [sgN]
 | n+1=>by rw [sgN,nk f n,sgN];omega
theorem fK{f g:Nat→Nat}:∀{n:Nat},(∀k,k<n→f k=g k)→sgN n f=sgN n g
 | 0,_=>rfl
 | n+1,h=>by rw [sgN,sgN,fK λk hk=>h k om,h n om]
theorem wY(f g:Nat→Nat):∀n,sgN n (λk=>f k+g k)=sgN n f+sgN n g
 | 0=>rfl
 | n+1=>by rw [sgN,sgN,sgN,wY f g n];omega
theorem oD(c:Nat)(f:Nat→Nat):∀n,sgN n (λk=>c*f k)=c*sgN n f
 | 0=>by simp [sgN]
 | n+1=>by rw [sgN,sgN,oD c f n,Nat.mul_add]
theorem me:∀n,sgN n (λ_=>0)=0
 | 0=>rfl
 | n+1=>by rw [sgN,me n]
def cv(la lb:List Nat)(i:Nat):Nat:=sgN (i+1) λu=>la.getD u 0*lb.getD (i-u) 0
theorem sJ(lb:List Nat)(i:Nat):cv [] lb i=0:=by
 unfold cv;rw [fK (g:=λ_=>0) λk _=>by simp,me]
theorem acN(x:Nat)(la lb:List Nat):∀i,cv (x::la) lb i=x*lb.getD i 0+(if i=0 then 0 else cv la lb (i-1))
 | 0=>by simp [cv,sgN]
 | i+1=>by
  unfold cv;rw [nk,if_neg om];simp only [List.getD_cons_zero,Nat.sub_zero,List.getD_cons_succ,Nat.add_sub_cancel];congr 1;exact fK λk hk=>by rw [show i+1-(k+1)=i-k by omega]
theorem xK(b:Nat):∀(l:List Nat) (K:Nat),l.length≤K→vl b l=sgN K λi=>l.getD i 0*b^i
 | [],K,_=>by rw [fK (g:=λ_=>0) λk _=>by simp,me];rfl
 | x::l,0,h=>by simp at h
 | x::l,K+1,h=>by
  rw [de,xK b l K (by simpa using h),nk,←oD];simp only [List.getD_cons_zero,Nat.pow_zero,Nat.mul_one,List.getD_cons_succ];congr 1;exact fK λk _=>by rw [Nat.pow_succ];grind
theorem vR(b:Nat)(lb:List Nat)(hb:lb≠[]):∀(la:List Nat) (K:Nat),la.length+lb.length≤K+1→sgN K (λi=>cv la lb i*b^i)=vl b la*vl b lb
 | [],K,_=>by rw [fK (g:=λ_=>0) λk _=>by rw [sJ,Nat.zero_mul],me,gw,Nat.zero_mul]
 | x::la,K,h=>by
  have hl:0<lb.length:=List.length_pos_iff.2 hb;obtain⟨K,rfl⟩:∃k,K=k+1:=⟨K-1,by simp at h;omega⟩;rw [fK (g:=λi=>x*(lb.getD i 0*b^i)+(if i=0 then 0 else cv la lb (i-1))*b^i) λk _=>by rw [acN,Nat.add_mul,Nat.mul_assoc],wY,oD,←xK b lb (K+1) (by simp at h;omega),nk];simp only [if_true,Nat.zero_mul,Nat.zero_add];rw [fK (g:=λi=>b*(cv la lb i*b^i)) λk _=>by rw [if_neg om,Nat.add_sub_cancel,Nat.pow_succ];grind,oD,vR b lb hb la K (by simp at h ⊢;omega),de];grind
theorem yx{la lb:List Nat}{b:Nat}(ha:Sm b la)(hb:Sm b lb)(h0:0<b)(i:Nat):cv la lb i≤la.length*((b-1)*(b-1)):=by
 unfold cv
 have key:∀n,sgN n (λu=>la.getD u 0*lb.getD (i-u) 0)≤min n la.length*((b-1)*(b-1)):=by
  intro n;induction n with
  | zero=>simp [sgN]
  | succ n ih=>
   rw [sgN];by_cases hn:n<la.length
   ·have h1:la.getD n 0≤b-1:=by
     have:la.getD n 0<b:=by rw [List.getD_eq_getElem?_getD,List.getElem?_eq_getElem hn];exact ha.get hn
     omega
    have h2:lb.getD (i-n) 0≤b-1:=by
     rw [List.getD_eq_getElem?_getD];cases h:lb[i-n]? with
     | none=>simp
     | some v=>have:=hb v (List.mem_of_getElem? h);simp;omega
    have:=Nat.mul_le_mul h1 h2;rw [show min (n+1) la.length=n+1 by omega,Nat.succ_mul];rw [show min n la.length=n by omega] at ih;omega
   ·have:la.getD n 0=0:=by simp [show la.length≤n by omega]
    rw [this,Nat.zero_mul,show min (n+1) la.length=la.length by omega];rw [show min n la.length=la.length by omega] at ih;omega
 refine Nat.le_trans (key (i+1)) (Nat.mul_le_mul_right _ (Nat.min_le_right _ _))
theorem adP{u:Nat}(hi:i<N)(c:Nat→Int):Sg N (λv=>if u+v=i then c v else 0)=if u≤i then c (i-u) else 0:=by
 have key:∀n,Sg n (λv=>if u+v=i then c v else 0)=if u≤i∧i-u<n then c (i-u) else 0:=by
  intro n;induction n with
  | zero=>simp [Sg]
  | succ n ih=>
   rw [Sg,ih];by_cases h:u+n=i
   ·rw [if_neg om,if_pos h,if_pos om,show i-u=n by omega];simp
   ·rw [if_neg h,Int.add_zero];by_cases h2:u≤i∧i-u<n
    ·rw [if_pos h2,if_pos om]
    ·rw [if_neg h2,if_neg om]
 rw [key];by_cases h:u≤i
 ·rw [if_pos om,if_pos h]
 ·rw [if_neg om,if_neg h]
theorem aej(hi:i<N)(f:Nat→Int):Sg N (λu=>if u≤i then f u else 0)=Sg (i+1) f:=by
 obtain⟨d,rfl⟩:∃d,N=i+1+d:=⟨N-(i+1),om⟩;rw [Sg.split,Sg.congr (g:=f) λk hk=>by rw [if_pos om],Sg.congr (g:=λ_=>0) (n:=d) λk _=>by rw [if_neg om],Sg.zero];simp
theorem xT{m:Nat}{X Y:Nat→Int}(hX:∀u,n≤u→X u=0)(hY:∀v,m≤v→Y v=0)(hnm:n+m≤N+1)(hi:i<N):
  (Sg N λu=>Sg N λv=>if (u+v+N-i)%N=0 then X u*Y v else 0)=Sg (i+1) λu=>X u*Y (i-u):=by
 rw [←aej hi];refine Sg.congr λu hu=>?_
 rw [←adP (u:=u) hi λv=>X u*Y v];refine Sg.congr λv hv=>?_
 by_cases hun:n≤u
 ·rw [hX u hun];simp
 by_cases hvm:m≤v
 ·rw [hY v hvm];simp
 have hlt:u+v<N:=om;by_cases h:u+v=i
 ·rw [if_pos h,if_pos];rw [h,show i+N-i=N by omega,Nat.mod_self]
 ·rw [if_neg h,if_neg];intro h0;rcases Nat.lt_or_ge (u+v) i with h1|h1
  ·rw [Nat.mod_eq_of_lt om] at h0;omega
  ·rw [show u+v+N-i=(u+v-i)+N by omega,Nat.add_mod_right,Nat.mod_eq_of_lt om] at h0;omega
end
section
variable {X d0 d1 p t v:Nat}
def Rcp(D v:Nat):Prop:=v<18446744073709551616∧(18446744073709551616+v)*D<18446744073709551616*18446744073709551616*18446744073709551616∧18446744073709551616*18446744073709551616*18446744073709551616≤(18446744073709551616+v)*D+D
theorem aet{e:Nat}(h1:18446744073709551616≤2*d1)(h2:d1<18446744073709551616)(hd:d0<18446744073709551616)(hX:X=d1*v)(he:18446744073709551616*d1+X+e=18446744073709551616*18446744073709551616-1)(hel:e<d1):
  (d0≤e→(X+d0)%18446744073709551616=18446744073709551616-1-e+d0)∧(e<d0→(X+d0)%18446744073709551616=d0-e-1∧1≤v):=by
 refine⟨λh=>by omega,λh=>⟨om,?_⟩⟩;rcases Nat.eq_zero_or_pos v with h0|h0
 ·subst h0;simp at hX;subst hX;omega
 ·exact h0
theorem xc(hX:X=d1*v)(hv:1≤v):X-d1=d1*(v-1)∧d1≤X:=by
 obtain⟨u,rfl⟩:∃u,v=u+1:=⟨v-1,om⟩;rw [Nat.add_sub_cancel,hX,Nat.mul_add];omega
def Rc1(d1 d0 v p:Nat):Prop:=v<18446744073709551616∧p<18446744073709551616∧18446744073709551616≤p+d1∧18446744073709551616*d1+d1*v+d0+18446744073709551616=18446744073709551616*18446744073709551616+p
set_option maxRecDepth 4000 in
theorem Rc1.fin_(h1:18446744073709551616≤2*d1)(h2:d1<18446744073709551616)(hd:d0<18446744073709551616)(h:Rc1 d1 d0 v p)(ht:t=v*d0):
  ((p+t/18446744073709551616)%18446744073709551616<t/18446744073709551616→18446744073709551616≤p+t/18446744073709551616∧1≤v∧
   ((d1<(p+t/18446744073709551616)%18446744073709551616∨(p+t/18446744073709551616)%18446744073709551616=d1∧d0≤t%18446744073709551616)→2≤v∧Rcp (d1*18446744073709551616+d0) (v-2))∧(¬(d1<(p+t/18446744073709551616)%18446744073709551616∨(p+t/18446744073709551616)%18446744073709551616=d1∧d0≤t%18446744073709551616)→Rcp (d1*18446744073709551616+d0) (v-1)))∧
  (¬(p+t/18446744073709551616)%18446744073709551616<t/18446744073709551616→Rcp (d1*18446744073709551616+d0) v):=by
 obtain⟨g1,g2,g3,g4⟩:=h;have htl:t≤(18446744073709551616-1)*(18446744073709551616-1):=by rw [ht];exact Nat.mul_le_mul om om
 have hT:=Nat.div_add_mod t 18446744073709551616;have hT0:=Nat.mod_lt t (show 0<18446744073709551616 by decide);have hT1:t/18446744073709551616<18446744073709551616:=(Nat.div_lt_iff_lt_mul dcd).2 om;obtain⟨X,hX⟩:∃X,X=d1*v:=⟨_,rfl⟩;rw [←hX] at g4
 have hE:(18446744073709551616+v)*(d1*18446744073709551616+d0)=18446744073709551616*(18446744073709551616*d1+X+d0)+t:=by
  rw [ht,hX];grind
 generalize t/18446744073709551616=t1 at*;generalize t%18446744073709551616=t0 at*
 have hE2:(18446744073709551616+v)*(d1*18446744073709551616+d0)+18446744073709551616*18446744073709551616=18446744073709551616*18446744073709551616*18446744073709551616+18446744073709551616*p+t:=by
  rw [hE]
  have key:∀M:Nat,M*d1+X+d0+M=M*M+p→M*(M*d1+X+d0)+t+M*M=M*M*M+M*p+t:=λM h=>by
   have e:M*(M*d1+X+d0)+M*M=M*(M*d1+X+d0+M):=by rw [Nat.mul_add M _ M]
   have e2:M*(M*M+p)=M*M*M+M*p:=by rw [Nat.mul_add,Nat.mul_assoc]
   rw [h,e2] at e;omega
  exact key _ g4
 have dec1:1≤v→(18446744073709551616+(v-1))*(d1*18446744073709551616+d0)+(d1*18446744073709551616+d0)=(18446744073709551616+v)*(d1*18446744073709551616+d0):=λhv=>by
  obtain⟨u,rfl⟩:∃u,v=u+1:=⟨v-1,om⟩;rw [Nat.add_sub_cancel];grind
 have dec2:2≤v→(18446744073709551616+(v-2))*(d1*18446744073709551616+d0)+2*(d1*18446744073709551616+d0)=(18446744073709551616+v)*(d1*18446744073709551616+d0):=λhv=>by
  obtain⟨u,rfl⟩:∃u,v=u+2:=⟨v-2,om⟩;rw [Nat.add_sub_cancel];grind
 have low1:v=0→(18446744073709551616+v)*(d1*18446744073709551616+d0)<18446744073709551616*18446744073709551616*18446744073709551616:=λh=>by
  rw [h,Nat.add_zero];have:d1*18446744073709551616+d0<18446744073709551616*18446744073709551616:=om;rw [Nat.mul_assoc];exact Nat.mul_lt_mul_of_pos_left this dcd
 constructor
 ·intro hlt
  have hov:18446744073709551616≤p+t1:=by
   rcases Nat.lt_or_ge (p+t1) 18446744073709551616 with h|h
   ·rw [Nat.mod_eq_of_lt h] at hlt;omega
   ·exact h
  have hm:(p+t1)%18446744073709551616=p+t1-18446744073709551616:=om
  have hv1:1≤v:=by
   rcases Nat.eq_zero_or_pos v with h|h
   ·have:=low1 h;omega
   ·exact h
  have dd:=dec1 hv1;rw [hm];refine⟨hov,hv1,λhc=>?_,λhc=>⟨om,om,om⟩⟩
  have hv2:2≤v:=by
   rcases Nat.lt_or_ge v 2 with h|h
   ·have:v=1:=om;subst this;rw [show 18446744073709551616+(1-1)=18446744073709551616 from rfl] at dd;have:18446744073709551616*(d1*18446744073709551616+d0)<18446744073709551616*(18446744073709551616*18446744073709551616):=Nat.mul_lt_mul_of_pos_left om dcd;omega
   ·exact h
  have d2:=dec2 hv2;exact⟨hv2,om,om,om⟩
 ·intro hge
  have hov:p+t1<18446744073709551616:=by
   rcases Nat.lt_or_ge (p+t1) 18446744073709551616 with h|h
   ·exact h
   ·omega
  exact⟨g1,om,om⟩
theorem Rc1.fin(h1:18446744073709551616≤2*d1)(h2:d1<18446744073709551616)(hd:d0<18446744073709551616)(h:Rc1 d1 d0 v p){t1 t0:Nat}(ht:t=v*d0)(e1:t/18446744073709551616=t1)(e0:t%18446744073709551616=t0):
  ((p+t1)%18446744073709551616<t1→18446744073709551616≤p+t1∧1≤v∧
   ((d1<(p+t1)%18446744073709551616∨(p+t1)%18446744073709551616=d1∧d0≤t0)→2≤v∧Rcp (d1*18446744073709551616+d0) (v-2))∧(¬(d1<(p+t1)%18446744073709551616∨(p+t1)%18446744073709551616=d1∧d0≤t0)→Rcp (d1*18446744073709551616+d0) (v-1)))∧
  (¬(p+t1)%18446744073709551616<t1→Rcp (d1*18446744073709551616+d0) v):=by
 subst e1 e0;exact h.fin_ h1 h2 hd ht
theorem aan{D v K u2 u1 u0 q1 q0:Int}(hD1:18446744073709551616*18446744073709551616≤2*D)(hD2:D<18446744073709551616*18446744073709551616)(hv:0≤v)(hK:(18446744073709551616+v)*D+K=18446744073709551616*18446744073709551616*18446744073709551616)(hK1:1≤K)(hK2:K≤D)(h2:0≤u2)(h1:0≤u1)(h1':u1<18446744073709551616)(h0:0≤u0)(h0':u0<18446744073709551616)(hu:u2*18446744073709551616+u1<D)(hq:q1*18446744073709551616+q0=(18446744073709551616+v)*u2+u1)(hq0:0≤q0)(hq0':q0<18446744073709551616):
  -D≤u2*(18446744073709551616*18446744073709551616)+u1*18446744073709551616+u0-(q1+1)*D∧q0*18446744073709551616-18446744073709551616*18446744073709551616≤u2*(18446744073709551616*18446744073709551616)+u1*18446744073709551616+u0-(q1+1)*D∧
  (u2*(18446744073709551616*18446744073709551616)+u1*18446744073709551616+u0-(q1+1)*D<18446744073709551616*18446744073709551616-D∨u2*(18446744073709551616*18446744073709551616)+u1*18446744073709551616+u0-(q1+1)*D<q0*18446744073709551616):=by
 obtain⟨R,hR⟩:∃R,R=u2*(18446744073709551616*18446744073709551616)+u1*18446744073709551616+u0-(q1+1)*D:=⟨_,rfl⟩;obtain⟨X,hX⟩:∃X,X=18446744073709551616*18446744073709551616-D:=⟨_,rfl⟩;rw [←hR,←hX]
 have key:18446744073709551616*R=u2*K+u1*X+u0*18446744073709551616+q0*D-18446744073709551616*D:=by
  have e1:q1*18446744073709551616=(18446744073709551616+v)*u2+u1-q0:=om;have e2:K=18446744073709551616*18446744073709551616*18446744073709551616-(18446744073709551616+v)*D:=om;rw [hR,e2,hX];have e3:18446744073709551616*((q1+1)*D)=(q1*18446744073709551616)*D+18446744073709551616*D:=by grind
  rw [e1] at e3;grind
 have hu2K:0≤u2*K:=Int.mul_nonneg h2 om;have hu1X:0≤u1*X:=Int.mul_nonneg h1 om;have hq0D:0≤q0*D:=Int.mul_nonneg hq0 om;have hqB:(18446744073709551616-q0)*D≤(18446744073709551616-q0)*(18446744073709551616*18446744073709551616):=Int.mul_le_mul_of_nonneg_left om om;have e4:(18446744073709551616-q0)*D=18446744073709551616*D-q0*D:=by grind
 rw [e4] at hqB;refine⟨om,om,?_⟩;by_cases hc:D≤18446744073709551616*X
 ·-- the reciprocal's remainder is at most D
  have a1:u2*K≤u2*D:=Int.mul_le_mul_of_nonneg_left hK2 h2;have a2:(u2*18446744073709551616)*D≤(D-1-u1)*D:=Int.mul_le_mul_of_nonneg_right om om;have a3:u1*(18446744073709551616*X-D)≤(18446744073709551616-1)*(18446744073709551616*X-D):=Int.mul_le_mul_of_nonneg_right om om;have e5:(u2*18446744073709551616)*D=18446744073709551616*(u2*D):=by grind
  have e6:(D-1-u1)*D=D*D-D-u1*D:=by grind
  have e7:u1*(18446744073709551616*X-D)=18446744073709551616*(u1*X)-u1*D:=by grind
  have e8:(18446744073709551616-1)*(18446744073709551616*X-D)=18446744073709551616*18446744073709551616*X-18446744073709551616*X-18446744073709551616*D+D:=om;have e9:D*D=18446744073709551616*18446744073709551616*D-D*X:=by rw [hX];grind
  have main:18446744073709551616*(18446744073709551616*R)≤18446744073709551616*18446744073709551616*X-18446744073709551616*18446744073709551616-D*X+18446744073709551616*(q0*D):=by
   rw [key];omega
  by_cases hz:q0*18446744073709551616≤X
  ·left;have b1:D*(q0*18446744073709551616)≤D*X:=Int.mul_le_mul_of_nonneg_left hz om;have e10:D*(q0*18446744073709551616)=18446744073709551616*(q0*D):=by grind
   omega
  ·right;have b1:D*(q0*18446744073709551616-X)≤(18446744073709551616*18446744073709551616)*(q0*18446744073709551616-X):=Int.mul_le_mul_of_nonneg_right om om;have e10:D*(q0*18446744073709551616-X)=18446744073709551616*(q0*D)-D*X:=by grind
   omega
 ·-- then the reciprocal is 0
  right
  have hv0:v=0:=by
   rcases Int.lt_or_le 0 v with h|h
   ·have:D≤v*D:=by
     have:=Int.mul_le_mul_of_nonneg_right (show (1:Int)≤v by omega) (show 0≤D by omega);omega
    have e:(18446744073709551616+v)*D=18446744073709551616*D+v*D:=by grind
    omega
   ·omega
  subst hv0;have e1:q1=u2∧q0=u1:=om;obtain⟨rfl,rfl⟩:=e1;have:(q1+1)*D=(q1+1)*(18446744073709551616*18446744073709551616)-(q1+1)*X:=by rw [hX];grind
  have a1:(q1+1)*X≤18446744073709551616*X:=Int.mul_le_mul_of_nonneg_right om om;rw [hR,this];omega
end
section
variable {A B C D P Q a b c d k lx ly mx my n x x0 y y0:Nat}
inductive Eu (a b:Nat):Nat→Nat→Nat→Nat→Nat→Nat→Nat→Prop where
 | zero:Eu a b 0 1 0 0 1 a b
 | step {n A B C D c d:Nat}:Eu a b n A B C D c d→0<d→Eu a b (n+1) (A*(c/d)+B) A (C*(c/d)+D) C d (c%d)
theorem Eu.eqs(h:Eu a b n A B C D c d):a=A*c+B*d∧b=C*c+D*d:=by
 induction h with
 | zero=>simp
 | @step n A B C D c d _ h0 ih=>
  obtain⟨h1,h2⟩:=ih;have h:=Nat.div_add_mod c d;generalize c/d=q at*;generalize c%d=r at*;subst h;constructor
  ·rw [h1];grind
  ·rw [h2];grind
theorem Eu.gcd(h:Eu a b n A B C D c d):Nat.gcd c d=Nat.gcd a b:=by
 induction h with
 | zero=>rfl
 | step _ _ ih=>rw [←ih,Nat.gcd_comm,←Nat.gcd_rec,Nat.gcd_comm]
theorem Eu.det(h:Eu a b n A B C D c d):(n%2=0→A*D=B*C+1)∧(n%2=1→B*C=A*D+1):=by
 induction h with
 | zero=>simp
 | @step n A B C D c d _ _ ih=>
  generalize c/d=q at*;constructor
  ·intro hn;have:=ih.2 om;grind
  ·intro hn;have:=ih.1 om;grind
theorem Eu.back(h:Eu a b n A B C D c d):(n%2=0→D*a=B*b+c∧A*b=C*a+d)∧(n%2=1→B*b=D*a+c∧C*a=A*b+d):=by
 obtain⟨h1,h2⟩:=h.eqs;obtain⟨h3,h4⟩:=h.det;constructor
 ·intro hn;have:=h3 hn;constructor
  ·have e:D*a=A*D*c+B*D*d:=by rw [h1];grind
   rw [e,h2,this];grind
  ·have e:A*b=A*C*c+A*D*d:=by rw [h2];grind
   rw [e,h1,this];grind
 ·intro hn;have:=h4 hn;constructor
  ·have e:B*b=B*C*c+B*D*d:=by rw [h2];grind
   rw [e,h1,this];grind
  ·have e:C*a=A*C*c+B*C*d:=by rw [h1];grind
   rw [e,h2,this];grind
theorem Eu.trans(h:Eu a b n A B C D c d){m A' B' C' D' e f:Nat}(h':Eu c d m A' B' C' D' e f):Eu a b (n+m) (A*A'+B*C') (A*B'+B*D') (C*A'+D*C') (C*B'+D*D') e f:=by
 induction h' with
 | zero=>simpa using h
 | @step m A' B' C' D' e f _ h0 ih=>
  have:=Eu.step ih h0;have e1:(A*A'+B*C')*(e/f)+(A*B'+B*D')=A*(A'*(e/f)+B')+B*(C'*(e/f)+D'):=by grind
  have e2:(C*A'+D*C')*(e/f)+(C*B'+D*D')=C*(A'*(e/f)+B')+D*(C'*(e/f)+D'):=by grind
  rw [e1,e2] at this;exact this
theorem Eu.lt(h:Eu a b n A B C D c d)(hn:0<n):d<c:=by
 cases h with
 | zero=>omega
 | step _ h0=>exact Nat.mod_lt _ h0
theorem Eu.le(h:Eu a b n A B C D c d):d≤b∧(0<n→c≤b):=by
 induction h with
 | zero=>simp
 | @step n A B C D c d h h0 ih=>exact⟨Nat.le_trans (Nat.le_of_lt (Nat.mod_lt _ h0)) ih.1,λ_=>ih.1⟩
theorem tY{T:Nat}(hT:0<T)(h1:T*x≤c+T*lx)(h2:c≤T*(x+mx))(h3:T*y≤d+T*ly)(h4:d≤T*(y+my))(hx:lx≤x)(hy:ly<y)(hk:(x-lx)/(y+my)=k)(hk2:(x+mx)/(y-ly)=k):0<d∧c/d=k∧k*y≤x∧x<(k+1)*y:=by
 obtain⟨x',rfl⟩:∃x',x=lx+x':=⟨x-lx,om⟩;obtain⟨y',rfl⟩:∃y',y=ly+y':=⟨y-ly,om⟩;rw [Nat.add_sub_cancel_left] at hk hk2;rw [Nat.mul_add] at h1 h3;have hy':0<y':=om;have hTy:T≤T*y':=Nat.le_mul_of_pos_right T hy';have hd:0<d:=om;have h5:k*(ly+y'+my)≤x':=by rw [←hk];exact Nat.div_mul_le_self _ _
 have h6:lx+x'+mx<(k+1)*y':=by
  have:=Nat.lt_succ_iff.2 (Nat.le_of_eq hk2);rw [Nat.div_lt_iff_lt_mul hy'] at this;exact this
 refine⟨hd,?_,?_,?_⟩
 ·refine Nat.le_antisymm ?_ ?_
  ·refine Nat.lt_succ_iff.1 ((Nat.div_lt_iff_lt_mul hd).2 ?_);have e1:T*(lx+x'+mx)<T*((k+1)*y'):=Nat.mul_lt_mul_of_pos_left h6 hT;have e2:(k+1)*(T*y')≤(k+1)*d:=Nat.mul_le_mul_left _ om;have e3:T*((k+1)*y')=(k+1)*(T*y'):=by grind
   show c<(k+1)*d;omega
  ·refine (Nat.le_div_iff_mul_le hd).2 ?_;have e1:k*d≤k*(T*(ly+y'+my)):=Nat.mul_le_mul_left _ h4;have e2:T*(k*(ly+y'+my))≤T*x':=Nat.mul_le_mul_left _ h5;have e3:k*(T*(ly+y'+my))=T*(k*(ly+y'+my)):=by grind
   omega
 ·have:k*(ly+y')≤k*(ly+y'+my):=Nat.mul_le_mul_left _ om;omega
 ·have:(k+1)*y'≤(k+1)*(ly+y'):=Nat.mul_le_mul_left _ om;omega
def Ld(x0 y0 P Q R S N x y:Nat):Prop:=
 (N%2=0→x+Q*y0=P*x0∧y+R*x0=S*y0)∧(N%2=1→x+P*x0=Q*y0∧y+S*y0=R*x0)∧
 ∀a b s:Nat,a/2^s=x0→b/2^s=y0→∃c d,Eu a b N S Q R P c d
theorem Ld.begin(x0 y0:Nat):Ld x0 y0 1 0 0 1 0 x0 y0:=⟨λ_=>by simp,λh=>by simp at h,λa b s _ _=>⟨a,b,Eu.zero⟩⟩
theorem sk{T al be:Nat}(h:x+Q*y0=P*x0)(hc:P*(T*x0+al)=Q*(T*y0+be)+c)(ha:al<T)(hb:be<T):T*x≤c+T*Q∧c≤T*(x+P):=by
 have e1:T*x+Q*(T*y0)=P*(T*x0):=by
  have:T*(x+Q*y0)=T*(P*x0):=by rw [h]
  grind
 have e2:P*al≤P*T:=Nat.mul_le_mul_left _ (Nat.le_of_lt ha);have e3:Q*be≤Q*T:=Nat.mul_le_mul_left _ (Nat.le_of_lt hb);rw [Nat.mul_add,Nat.mul_add] at hc;rw [Nat.mul_add,Nat.mul_comm T Q,Nat.mul_comm T P];omega
theorem Ld.next{R S N:Nat}(h:Ld x0 y0 P Q R S N x y)(he:N%2=0→lx=Q∧mx=P∧ly=R∧my=S)(ho:N%2=1→lx=P∧mx=Q∧ly=S∧my=R)(hx:lx≤x)(hy:ly<y)(hk:(x-lx)/(y+my)=k)(hk2:(x+mx)/(y-ly)=k):Ld x0 y0 R S (P+k*R) (Q+k*S) (N+1) y (x-k*y)∧k*y≤x∧x-k*y<y:=by
 obtain⟨g1,g2,g3⟩:=h
 have hky:k*y≤x∧x<(k+1)*y:=by
  have:=tY (T:=1) (c:=x) (d:=y) Nat.one_pos om om om om hx hy hk hk2;exact this.2.2
 refine⟨⟨λhn=>?_,λhn=>?_,λa b s ha hb=>?_⟩,hky.1,?_⟩
 ·obtain⟨e1,e2⟩:=g2 om;refine⟨e2,?_⟩;obtain⟨z,rfl⟩:∃z,x=k*y+z:=⟨x-k*y,om⟩;rw [Nat.add_sub_cancel_left];have e3:k*(y+S*y0)=k*(R*x0):=by rw [e2]
  grind
 ·obtain⟨e1,e2⟩:=g1 om;refine⟨e2,?_⟩;obtain⟨z,rfl⟩:∃z,x=k*y+z:=⟨x-k*y,om⟩;rw [Nat.add_sub_cancel_left];have e3:k*(y+R*x0)=k*(S*y0):=by rw [e2]
  grind
 ·obtain⟨c,d,hE⟩:=g3 a b s ha hb;have hT:=Nat.two_pow_pos s;have da:=Nat.div_add_mod a (2^s);have db:=Nat.div_add_mod b (2^s);have la:=Nat.mod_lt a hT;have lb:=Nat.mod_lt b hT;rw [ha] at da;rw [hb] at db;generalize a%2^s=al at*;generalize b%2^s=be at*;generalize 2^s=T at*
  have hb4:T*x≤c+T*lx∧c≤T*(x+mx)∧T*y≤d+T*ly∧d≤T*(y+my):=by
   rcases Nat.mod_two_eq_zero_or_one N with hn|hn
   ·obtain⟨rfl,rfl,rfl,rfl⟩:=he hn;obtain⟨b1,b2⟩:=hE.back.1 hn;obtain⟨e1,e2⟩:=g1 hn;rw [←da,←db] at b1 b2;have r1:=sk e1 b1 la lb;have r2:=sk e2 b2 lb la;exact⟨r1.1,r1.2,r2.1,r2.2⟩
   ·obtain⟨rfl,rfl,rfl,rfl⟩:=ho hn;obtain⟨b1,b2⟩:=hE.back.2 hn;obtain⟨e1,e2⟩:=g2 hn;rw [←da,←db] at b1 b2;have r1:=sk e1 b1 lb la;have r2:=sk e2 b2 la lb;exact⟨r1.1,r1.2,r2.1,r2.2⟩
  obtain⟨k1,k2,k3,k4⟩:=hb4;obtain⟨q1,q2,-,-⟩:=tY hT k1 k2 k3 k4 hx hy hk hk2;have hs:=hE.step q1;rw [q2] at hs;refine⟨d,c%d,?_⟩;rw [show Q+k*S=S*k+Q by grind,show P+k*R=R*k+P by grind];exact hs
 ·have:(k+1)*y=k*y+y:=Nat.succ_mul ..;omega
end
section
variable {a b d k s:Nat} {v vs:List Value} {w':TW} {X:Nat→Prop} {K:Int→Prop} {c x y:Int}
structure Rw (w:TW) (b:Nat) (vs:List Value):Prop where
 at_:∃ty,w.w.heap[b]?=some (.cells vs.toArray ty (0,0))
 V:¬w.V b
theorem Rw.lt{w:TW}(h:Rw w b v):b<w.w.heap.size:=by obtain⟨ty,h⟩:=h.at_;exact (Array.getElem?_eq_some_iff.1 h).1
theorem Rw.mv{w:TW}(h:Rw w b v):Rw (w.at k) b v:=⟨h.at_,h.V⟩
theorem Rw.here{w:TW}(h:Rw w b v):Rw w.here b v:=⟨h.at_,h.V⟩
theorem Rw.extX{w:TW}(h:Rw w b v)(hx:Ext X w w')(hX:¬X b):Rw w' b v:=
 ⟨h.at_.imp λty g=>(hx.block b h.lt hX (.inr h.V)).trans g,λhV=>(hx.new b hV).elim h.V λh'=>by have:=h.lt;omega⟩
theorem Rw.ext{w:TW}(h:Rw w b v)(hx:Ext aa w w'):Rw w' b v:=h.extX hx λh=>h
theorem Rw.cell{w:TW}(h:Rw w b v)(j:Nat):w.w.cell? ⟨b,j,none⟩=v[j]?:=by
 obtain⟨ty,h⟩:=h.at_;rw [cell_of_row w.w b j _ ty (0,0) h];simp
theorem yd{w:TW}{ty:TypeId}{K:Nat→TW→Prop}(hK:∀b w',Rw w' b vs→b=w.w.heap.size→Ext aa w w'→K b w'):nwb w vs ty K:=λb w' h=>hK b w' ⟨⟨ty,h.heap⟩,λhV=>by rw [h.V] at hV;have:=w.lt _ hV;have:=h.at_;omega⟩ h.at_ (h.ext _)
theorem Rw.drew{w:TW}(h:Rw w b v):Rw w.drew b v:=⟨h.at_,h.V⟩
theorem Rw.put{w:TW}(h:Rw w b vs){a:Addr}{j:Nat}(ha:a=⟨b,j,none⟩)(hj:j<vs.length)(x:Value){K:TW→Prop}(hK:∀w',Rw w' b (vs.set j x)→Ext (λk=>k=b) w w'→K w'):stc w a x K:=by
 subst ha;obtain⟨ty,hg⟩:=h.at_;refine⟨⟨vs[j],?_⟩,by simp [World.frozen?,hg],h.V,hK (w.set ⟨b,j,none⟩ x) ⟨⟨ty,?_⟩,h.V⟩ ⟨rfl,rfl,rfl,by simp [TW.set,World.setCell],rfl,λ_ h=>h,λ_ h=>.inl h,λk _ hX _=>Below.heap_setCell w.w _ _ k hX,λk _=>jY _ _ _ _⟩⟩
 ·rw [h.cell];simp [hj]
 ·simp [TW.set,World.setCell,Array.getElem?_modify,hg]
theorem rt4{c d e f:CK}{K:CV c→CV d→CV e→CV f→TW→Prop}{w T':TW}(x:CV c)(y:CV d)(z:CV e)(u:CV f)(hx:Ext X w.here T')(hK:K x y z u (T'.at w.B)):Rt X [.one c,.one d,.one e,.one f] K w (.tuple #[CV.enc c x,CV.enc d y,CV.enc e z,CV.enc f u]) T':=⟨(x,y,z,u,()),rfl,hx,hK⟩
theorem mE{K:Int→Int→Prop}(hx:x=a)(hy:y=b)(hc:c=d)(hd:d≤1)(ha:a<18446744073709551616)(hb:b<18446744073709551616)(h:∀s e:Nat,s<18446744073709551616→e≤1→s+b+d=a+18446744073709551616*e→K s e):kP x y c K:=by
 refine⟨a,b,d,hx,hy,hc,hd,h _ _ (Nat.mod_lt _ dcd) ?_ ?_⟩
 ·split<;>omega
 ·split<;>omega
theorem jf{K:Int→Int→Prop}(hx:x=a)(hy:y=b)(hc:c=d)(hd:d≤1)(ha:a<18446744073709551616)(hb:b<18446744073709551616)(h:∀s e:Nat,s<18446744073709551616→e≤1→s+18446744073709551616*e=a+b+d→K s e):gv x y c K:=by
 refine⟨a,b,d,hx,hy,hc,hd,h _ _ (Nat.mod_lt _ dcd) om om⟩
theorem abL(hx:x=a)(hy:y=b)(ha:a<18446744073709551616)(hb:b<18446744073709551616)(h:∀s e:Nat,s<18446744073709551616→s+b=a+18446744073709551616*e→K s):bnd (wu (x-y)) K:=by
 subst hx hy;unfold bnd;by_cases hle:b≤a
 ·rw [show wu ((a:Int)-b)=((a-b:Nat):Int) by rw [wu,IntKind.wrap_u64];omega];exact h _ 0 om om
 ·rw [show wu ((a:Int)-b)=((a+18446744073709551616-b:Nat):Int) by rw [wu,IntKind.wrap_u64];omega];exact h _ 1 om om
theorem uz(hx:x=a)(h:∀s e:Nat,s<18446744073709551616→s+18446744073709551616*e=a→K s):bnd (wu x) K:=by
 refine gy hx ?_;rw [w64];exact h _ (a/18446744073709551616) (Nat.mod_lt _ dcd) om
theorem fA(hx:x=a)(hy:y=b)(hb:b≤a)(ha:a<W64)(h:K ((a-b:Nat):Int)):bnd (wu (x-y)) K:=ai om om h
def Md(w:TW)(m:Option Addr)(p:Nat):Prop:=∃b neg one two,m=some ⟨b,0,none⟩∧Rw w b [U p,U neg,U one,U two]∧neg<W64∧(p*neg+1)%W64=0∧one=W64%p∧two=W64*W64%p∧3≤p∧p<4611686018427387904∧p%2=1
theorem Md.ext{w:TW}{m:Option Addr}{p:Nat}(h:Md w m p)(e:Ext aa w w'):Md w' m p:=by obtain⟨b,n,o,t,h1,h2,h3⟩:=h;exact⟨b,n,o,t,h1,h2.ext e,h3⟩
theorem Md.here{w:TW}{m:Option Addr}{p:Nat}(h:Md w m p):Md w.here m p:=by obtain⟨b,n,o,t,h1,h2,h3⟩:=h;exact⟨b,n,o,t,h1,h2.here,h3⟩
theorem Md.at{w:TW}{m:Option Addr}{p:Nat}(h:Md w m p):Md (w.at k) m p:=by obtain⟨b,n,o,t,h1,h2,h3⟩:=h;exact⟨b,n,o,t,h1,h2.mv,h3⟩
theorem Md.drew{w:TW}{m:Option Addr}{p:Nat}(h:Md w m p):Md w.drew m p:=by obtain⟨b,n,o,t,h1,h2,h3⟩:=h;exact⟨b,n,o,t,h1,⟨h2.at_,h2.V⟩,h3⟩
theorem Md.rng{w:TW}{m:Option Addr}{p:Nat}(h:Md w m p):3≤p∧p<4611686018427387904∧p%2=1:=by obtain⟨_,_,_,_,_,_,_,_,_,_,h⟩:=h;exact h
theorem Md.pk{w0 w:TW}{m:Option Addr}{p:Nat}(h:Md w0 m p)(e:Ext aa w0 w){K:Addr→Int→Prop}(hK:∀a,(∀w',Ext aa w0 w'→w'.w.cell? a=some (U p))→K a (p:Nat)):nck m λa=>ldc (.int .u64) w a (K a):=by
 obtain⟨b,n,o,t,rfl,h2,_⟩:=h;exact ah ⟨(p:Nat),((h2.ext e).cell 0).trans rfl,hK _ λw' e'=>((h2.ext e').cell 0).trans rfl⟩
theorem Md.p{w:TW}{m:Option Addr}{p:Nat}(h:Md w m p)(hK:K (p:Nat)):nck m λa=>ldc (.int .u64) w a K:=h.pk (Ext.refl _ _) λ_ _=>hK
section
variable {w:TW} {m:Option Addr} {p:Nat}
theorem zJ(h:Md w m p):Ct Pg F.iL [.pointer m] w aa [.one (.int .u64)] λ(r:Int) _=>r=p:=by
 refine Ct.iL ?_;unfold Sh.iL;exact h.here.p (rt1 (c:=.int .u64) _ (Ext.refl _ _) rfl)
theorem rh(h:Md w m p):Ct Pg F.fC [.pointer m,.int .u64 a] w aa [.one (.int .u64)] λ(r:Int) _=>r=(a%p:Nat):=by
 have hp:=h.rng;refine Ct.fC ?_;unfold Sh.fC;exact h.here.p (eP rfl rfl om (rt1 (c:=.int .u64) _ (Ext.refl _ _) rfl))
theorem vr(h:Md w m p)(ha:a<p)(hb:b<p):Ct Pg F.cM [.pointer m,.int .u64 a,.int .u64 b] w aa [.one (.int .u64)] λ(r:Int) _=>r=(a*b%p:Nat):=by
 have hp:=h.rng;have hpW:p<W64:=by rw [w64];omega
 refine Ct.cM ?_;unfold Sh.cM;refine c2 (bits_Mul64 (Nat.lt_trans ha hpW) (Nat.lt_trans hb hpW)) ?_;rintro hi lo w1 e1 ⟨rfl,rfl⟩;refine (h.here.ext e1).p ?_
 have hlt:a*b/W64<p:=by
  refine (Nat.div_lt_iff_lt_mul dcd).2 ?_;exact Nat.lt_of_le_of_lt (Nat.mul_le_mul (Nat.le_of_lt ha) (Nat.le_of_lt hb)) (Nat.mul_lt_mul_of_pos_left hpW om)
 refine c2 (bits_Div64 (Nat.mod_lt _ dcd) hpW hlt) ?_;rintro q r w2 e2 ⟨rfl,rfl⟩;refine rt1 (c:=.int .u64) _ (e1.trans e2) ?_;have:=Nat.div_add_mod (a*b) W64;rw [show a*b/W64*W64+a*b%W64=a*b by rw [Nat.mul_comm];exact this]
theorem aa3(h:Md w m p)(ha:a<p)(hb:b<p):Ct Pg F.io [.pointer m,.int .u64 a,.int .u64 b] w aa [.one (.int .u64)] λ(r:Int) _=>r=((a+b)%p:Nat):=by
 have hp:=h.rng;refine Ct.io ?_;unfold Sh.io;refine ai (y:=a+b) om (by rw [w64];omega) (h.here.p ?_);refine j1 (λ(r:Int) w'=>r=((a+b)%p:Nat)∧w'=w.here) ?_ ?_
 ·refine ac (λhc=>?_) (λhc=>?_)
  ·refine h.here.p (fA rfl rfl om (by rw [w64];omega) ⟨?_,rfl⟩);rw [Nat.mod_eq_sub_mod om,Nat.mod_eq_of_lt om]
  ·exact⟨by rw [Nat.mod_eq_of_lt om],rfl⟩
 rintro r w1 ⟨rfl,rfl⟩;exact rt1 (c:=.int .u64) _ (Ext.refl _ _) rfl
theorem vq(h:Md w m p)(ha:a<p)(hb:b<p):Ct Pg F.fZ [.pointer m,.int .u64 a,.int .u64 b] w aa [.one (.int .u64)] λ(r:Int) _=>r=((a+p-b)%p:Nat):=by
 have hp:=h.rng;refine Ct.fZ ?_;unfold Sh.fZ;refine ac (λhc=>?_) (λhc=>?_)
 ·refine fA rfl rfl om (by rw [w64];omega) (rt1 (c:=.int .u64) _ (Ext.refl _ _) ?_);rw [show a+p-b=a-b+p by omega,Nat.add_mod_right,Nat.mod_eq_of_lt om]
 ·refine h.here.p (ai (y:=a+p) om (by rw [w64];omega) (fA rfl rfl om (by rw [w64];omega) (rt1 (c:=.int .u64) _ (Ext.refl _ _) ?_)));rw [Nat.mod_eq_of_lt om]
theorem nC(h:Md w m p):Ct Pg F.dw [.pointer m,.int .u64 a,.int .u64 b] w aa [.one (.int .u64)] λ(r:Int) _=>r=((a+b)%p:Nat):=by
 have hp:=h.rng;refine Ct.dw ?_;unfold Sh.dw;refine h.here.pk (Ext.refl _ _).drew λa1 k1=>eP rfl rfl om (h.here.pk (Ext.refl _ _).drew λa2 k2=>eP rfl rfl om ?_)
 refine c1 (aa3 h.here.drew (Nat.mod_lt _ om) (Nat.mod_lt _ om)) ?_;rintro r w1 e1 rfl;have e:=(Ext.refl aa w.here).drew.trans e1;exact mJ (k2 _ e) (k1 _ e) (rt1 (c:=.int .u64) _ e (by rw [←Nat.add_mod]))
theorem rf(h:Md w m p):Ct Pg F.fB [.pointer m,.int .u64 a,.int .u64 b] w aa [.one (.int .u64)] λ(r:Int) _=>r=((a%p+p-b%p)%p:Nat):=by
 have hp:=h.rng;refine Ct.fB ?_;unfold Sh.fB;refine h.here.pk (Ext.refl _ _).drew λa1 k1=>eP rfl rfl om (h.here.pk (Ext.refl _ _).drew λa2 k2=>eP rfl rfl om ?_)
 refine c1 (vq h.here.drew (Nat.mod_lt _ om) (Nat.mod_lt _ om)) ?_;rintro r w1 e1 rfl;have e:=(Ext.refl aa w.here).drew.trans e1;exact mJ (k2 _ e) (k1 _ e) (rt1 (c:=.int .u64) _ e rfl)
theorem iu(h:Md w m p):Ct Pg F.bf [.pointer m,.int .u64 a,.int .u64 b] w aa [.one (.int .u64)] λ(r:Int) _=>r=(a*b%p:Nat):=by
 have hp:=h.rng;refine Ct.bf ?_;unfold Sh.bf;refine h.here.pk (Ext.refl _ _).drew λa1 k1=>eP rfl rfl om (h.here.pk (Ext.refl _ _).drew λa2 k2=>eP rfl rfl om ?_)
 refine c1 (vr h.here.drew (Nat.mod_lt _ om) (Nat.mod_lt _ om)) ?_;rintro r w1 e1 rfl;have e:=(Ext.refl aa w.here).drew.trans e1;exact mJ (k2 _ e) (k1 _ e) (rt1 (c:=.int .u64) _ e (by rw [←Nat.mul_mod]))
theorem yg(h:Md w m p){x:Nat}:Ct Pg F.fN [.pointer m,.int .u64 x] w aa [.one (.int .u64)] λ(r:Int) _=>r=(x%p*W64/p:Nat):=by
 have hp:=h.rng;refine Ct.fN ?_;unfold Sh.fN;refine h.here.pk (Ext.refl _ _).drew λa1 k1=>eP rfl rfl om (h.here.pk (Ext.refl _ _).drew λa2 k2=>?_)
 refine c2 (bits_Div64 (lo:=0) dcd (by rw [w64];omega) (Nat.mod_lt x om)) ?_;rintro q r w1 e1 ⟨rfl,rfl⟩;have e:=(Ext.refl aa w.here).drew.trans e1;exact kG (k1 _ e) (rt1 (c:=.int .u64) _ e (by rw [Nat.add_zero]))
theorem aaD{x q W:Nat}(h0:0<p)(ha:a<p)(hx:x<p)(hpW:p<W)(hs:s=x*W/p)(hq:q=a*s/W):q*p≤a*x∧a*x<q*p+2*p:=by
 have h1:s*p≤x*W:=by rw [hs];exact Nat.div_mul_le_self _ _
 have h2:x*W<s*p+p:=by rw [hs];have:=Nat.lt_div_mul_add (a:=x*W) h0;omega
 have h3:q*W≤a*s:=by rw [hq];exact Nat.div_mul_le_self _ _
 have h4:a*s<q*W+W:=by rw [hq];have:=Nat.lt_div_mul_add (a:=a*s) (b:=W) om;omega
 have hW:0<W:=om;constructor
 ·refine Nat.le_of_mul_le_mul_right (c:=W) ?_ hW;have e1:q*W*p≤a*s*p:=Nat.mul_le_mul_right _ h3;have e2:a*(s*p)≤a*(x*W):=Nat.mul_le_mul_left _ h1;have e3:q*p*W=q*W*p:=by grind
  have e4:a*x*W=a*(x*W):=by grind
  have e5:a*s*p=a*(s*p):=by grind
  omega
 ·refine Nat.lt_of_mul_lt_mul_right (a:=W) (b:=a*x) (c:=q*p+2*p) ?_;have e1:a*(x*W)≤a*(s*p+p):=Nat.mul_le_mul_left _ (Nat.le_of_lt h2);have e2:a*s*p<(q*W+W)*p:=Nat.mul_lt_mul_of_pos_right h4 h0;have e3:a*p≤W*p:=Nat.mul_le_mul_right _ om;have e4:a*(s*p+p)=a*s*p+a*p:=by grind
  have e5:(q*W+W)*p=q*p*W+W*p:=by grind
  have e6:(q*p+2*p)*W=q*p*W+W*p+W*p:=by grind
  have e7:a*x*W=a*(x*W):=by grind
  omega
theorem uq(h:Md w m p){x:Nat}(hs:s=x%p*W64/p):Ct Pg F.dJ [.pointer m,.int .u64 a,.int .u64 x,.int .u64 s] w aa [.one (.int .u64)] λ(r:Int) _=>r=(a*x%p:Nat):=by
 have hp:=h.rng;have hpW:p<W64:=by rw [w64];omega
 have hsW:s<W64:=by
  rw [hs];refine (Nat.div_lt_iff_lt_mul om).2 ?_;rw [Nat.mul_comm];exact Nat.mul_lt_mul_of_pos_left (Nat.mod_lt _ om) dcd
 refine Ct.dJ ?_;unfold Sh.dJ;refine h.here.drew.p (eP rfl rfl om (h.here.drew.p (eP rfl rfl om ?_)));have ha:=Nat.mod_lt a (show 0<p by omega);have hx:=Nat.mod_lt x (show 0<p by omega);rw [Nat.mul_mod];generalize a%p=a at*;generalize x%p=x at*;refine c2 (bits_Mul64 (x:=a) (Nat.lt_trans ha hpW) hsW) ?_;rintro hi lo w1 e1 ⟨rfl,rfl⟩;obtain⟨q,hq⟩:∃q,q=a*s/W64:=⟨_,rfl⟩;obtain⟨g1,g2⟩:=aaD om ha hx hpW hs hq;rw [←hq];have hM:=(h.here.drew).ext e1;have e1:=(Ext.refl aa w.here).drew.trans e1;rw [w64] at hpW;refine gy (y:=a*x) smp (hM.p (gy (y:=q*p) smp ?_));obtain⟨Z,hZ⟩:∃Z,a*x=Z:=⟨_,rfl⟩;obtain⟨Y,hY⟩:∃Y,q*p=Y:=⟨_,rfl⟩;rw [hZ,hY] at g1 g2;rw [hZ,hY]
 have hr:wu (((Z%W64:Nat):Int)-((Y%W64:Nat):Int))=((Z-Y:Nat):Int):=by
  rw [wu,IntKind.wrap_u64,w64];omega
 refine ag hr (hM.p ?_);refine j1 (λ(r:Int) w'=>r=(Z%p:Nat)∧w'=w1) ?_ ?_
 ·have hZm:Z%p=(Z-Y)%p:=by
   obtain⟨y,rfl⟩:∃y,Z=Y+y:=⟨Z-Y,om⟩;rw [Nat.add_sub_cancel_left,←hY,Nat.mul_comm,Nat.mul_add_mod]
  refine ac (λhc=>?_) (λhc=>?_)
  ·refine hM.p (fA rfl rfl om (by rw [w64];omega) ⟨?_,rfl⟩);rw [hZm,Nat.mod_eq_sub_mod om,Nat.mod_eq_of_lt om]
  ·exact⟨by rw [hZm,Nat.mod_eq_of_lt om],rfl⟩
 rintro r w2 ⟨rfl,rfl⟩;refine hM.p (eP rfl rfl om (rt1 (c:=.int .u64) _ e1 ?_));rw [Nat.mod_mod]
end
end
section
variable {a j k lo:Nat} {v:Int}
theorem Md.winv{w:TW}{m:Option Addr}{p:Nat}(h:Md w m p):∃k:Int,cg p ((W64:Nat)*k) 1:=by
 obtain⟨_,neg,_,_,_,_,_,h,_⟩:=h;refine⟨((p*neg+1)/W64:Nat),(neg:Int),?_⟩;have:=Nat.div_add_mod (p*neg+1) W64;rw [h,Nat.add_zero] at this;rw [←Int.natCast_mul,this];simp;omega
theorem Md.cancel{w:TW}{m:Option Addr}{p:Nat}(h:Md w m p){x y:Int}(hxy:cg p (x*(W64:Nat)) ((W64:Nat)*y)):cg p x y:=by
 obtain⟨k,hk⟩:=h.winv;have h1:=hxy.mul (cg.rfl' (p:=p) (x:=k));have h2:=(cg.rfl' (p:=p) (x:=x)).mul hk;have h3:=hk.mul (cg.rfl' (p:=p) (x:=y));have e1:x*((W64:Nat):Int)*k=x*(((W64:Nat):Int)*k):=by grind
 have e2:((W64:Nat):Int)*y*k=((W64:Nat):Int)*k*y:=by grind
 rw [e1,e2] at h1;rw [Int.mul_one] at h2;rw [Int.one_mul] at h3;exact (h2.symm.trans h1).trans h3
theorem aa2{W p neg q h l:Nat}(hk:p*neg+1=W*k)(hj:W*j+q=lo*neg)(hl:W*h+l=q*p):lo+l+W*(h+j*p)=W*(lo*k):=by
 have e1:lo*(p*neg+1)=lo*(W*k):=by rw [hk]
 have e2:(W*j+q)*p=lo*neg*p:=by rw [hj]
 grind
theorem ob{b p:Nat}(ha:a<p)(hb:b<p)(hp:p<W64):a*b/W64<p:=
 (Nat.div_lt_iff_lt_mul dcd).2 (Nat.lt_of_le_of_lt (Nat.mul_le_mul (Nat.le_of_lt ha) (Nat.le_of_lt hb)) (Nat.mul_lt_mul_of_pos_left hp om))
section
variable {w:TW} {m:Option Addr} {p:Nat}
theorem p8(h:Md w m p){hi:Nat}(hlo:lo<W64)(hhi:hi<p):Ct Pg F.cL [.pointer m,.int .u64 hi,.int .u64 lo] w aa [.one (.int .u64)] λ(r:Int) _=>∃x:Nat,r=x∧x<p∧cg p ((x:Int)*(W64:Nat)) ((hi:Int)*(W64:Nat)+lo):=by
 have hp:=h.rng;have hpW:p<W64:=by rw [w64];omega
 refine Ct.cL ?_;unfold Sh.cL;obtain⟨b,neg,one,two,rfl,hR,hn,hpn,h3⟩:=h.here;refine ah ⟨(neg:Nat),(hR.cell 1).trans rfl,?_⟩;have hM:=h.here;obtain⟨q,hq⟩:∃q,q=lo*neg%W64:=⟨_,rfl⟩;have hqW:q<W64:=by rw [hq];exact Nat.mod_lt _ dcd
 refine gy (y:=lo*neg) smp ?_;rw [←hq];refine hM.p ?_;refine c2 (bits_Mul64 hqW hpW) ?_;rintro hi' lo' w1 e1 ⟨rfl,rfl⟩;have m1:=Nat.div_add_mod (q*p) W64;have m2:=Nat.mod_lt (q*p) (show 0<W64 by decide);have m3:q*p/W64<p:=(Nat.div_lt_iff_lt_mul dcd).2 (by rw [Nat.mul_comm];exact Nat.mul_lt_mul_of_pos_left hqW om);have m4:=Nat.div_add_mod (lo*neg) W64;rw [←hq] at m4;have m5:=Nat.div_add_mod (p*neg+1) W64;rw [hpn,Nat.add_zero] at m5;have key:=aa2 m5.symm m4 m1;obtain⟨Y,hY⟩:∃Y,q*p=Y:=⟨_,rfl⟩;rw [hY] at m1 m2 m3 key ⊢;generalize Y/W64=H at*;generalize Y%W64=L at*;generalize lo*((p*neg+1)/W64)=z1 at*;generalize lo*neg/W64*p=z2 at*;rw [w64] at hlo m2 hpW m1 key;refine jf (a:=lo) (b:=L) (d:=0) rfl rfl rfl om hlo m2 λs0 c hs0 hc f1=>?_
 have hs:s0=0:=om;subst hs;refine jf (a:=hi) (b:=H) rfl rfl rfl hc om om λs1 c' hs1 hc' f2=>?_
 have hM1:=hM.ext e1;have hs2:s1=hi+H+c:=om;have hY2:Y<18446744073709551616*p:=by rw [←hY];exact Nat.mul_lt_mul_of_pos_right (by rw [←w64];exact hqW) om
 have hval:s1*18446744073709551616=hi*18446744073709551616+lo+Y:=om;refine hM1.p ?_;refine j1 (λ(r:Int) w'=>(∃x:Nat,r=x∧x<p∧cg p ((x:Int)*(W64:Nat)) ((hi:Int)*(W64:Nat)+lo))∧w'=w1) ?_ ?_
 ·have hcg:cg p ((s1:Int)*(W64:Nat)) ((hi:Int)*(W64:Nat)+lo):=by
   refine⟨(q:Int),?_⟩;have:(p:Int)*q=Y:=by rw [←hY];simp [Int.mul_comm]
   rw [this];show (s1:Int)*18446744073709551616=(hi:Int)*18446744073709551616+lo+Y;omega
  refine ac (λhc=>?_) (λhc=>?_)
  ·refine hM1.p (fA rfl rfl om (by rw [w64];omega) ⟨⟨s1-p,rfl,om,?_⟩,rfl⟩);refine cg.trans ?_ hcg;refine⟨-((W64:Nat):Int),?_⟩;rw [show ((s1-p:Nat):Int)=s1-p by omega];grind
  ·exact⟨⟨s1,rfl,om,hcg⟩,rfl⟩
 rintro r w2 ⟨hr,rfl⟩;exact rt1 (c:=.int .u64) _ e1 hr
theorem zI(h:Md w m p)(ha:a<p):Ct Pg F.gt [.pointer m,.int .u64 a] w aa [.one (.int .u64)] λ(r:Int) _=>∃x:Nat,r=x∧x<p∧cg p x ((W64:Nat)*a):=by
 have hp:=h.rng;have hpW:p<W64:=by rw [w64];omega
 refine Ct.gt ?_;unfold Sh.gt;have hM:=h.here;obtain⟨b,neg,one,two,rfl,hR,hn,hpn,h3,h4,h5⟩:=h.here;refine ah ⟨(two:Nat),(hR.cell 3).trans rfl,?_⟩;have htwo:two<p:=by rw [h4];exact Nat.mod_lt _ om
 refine c2 (bits_Mul64 (Nat.lt_trans ha hpW) (Nat.lt_trans htwo hpW)) ?_;rintro hi lo w1 e1 ⟨rfl,rfl⟩;refine c1 (p8 (hM.ext e1) (Nat.mod_lt _ dcd) (ob ha htwo hpW)) ?_;rintro r w2 e2 ⟨x,rfl,hx,hc⟩;refine rt1 (c:=.int .u64) _ (e1.trans e2) ⟨x,rfl,hx,hM.cancel (hc.trans ?_)⟩;have hdm:=Nat.div_add_mod (a*two) W64
 have e:((a*two/W64:Nat):Int)*(W64:Nat)+(a*two%W64:Nat)=(a:Int)*two:=by
  rw [←Int.natCast_mul,←Int.natCast_add,Nat.mul_comm (a*two/W64),hdm];simp
 rw [e];have h6:cg p (two:Int) ((W64:Nat)*(W64:Nat)):=by rw [h4];have:=@cg.mod p (W64*W64);simpa using this
 refine ((cg.rfl' (p:=p) (x:=(a:Int))).mul h6).trans (cg.of ?_);grind
theorem vt(h:Md w m p){n:Nat}(hn:n<W64):Ct Pg F.ge [.pointer m,.int .u64 a,.int .u64 n] w aa [.one (.int .u64)] λ(r:Int) _=>r=(a^n%p:Nat):=by
 have hp:=h.rng;have hpW:p<W64:=by rw [w64];omega
 refine Ct.ge ?_;unfold Sh.ge;have hM:=h.here;refine hM.pk (Ext.refl _ _).drew λa1 k1=>eP rfl rfl om ?_
 obtain⟨b,neg,one,two,rfl,hR,hn,hpn,h3,h4,h5⟩:=h.here;have hone:one<p:=by rw [h3];exact Nat.mod_lt _ om
 refine ah ⟨(one:Nat),(hR.cell 2).trans rfl,?_⟩;have hM:=hM.drew;refine c1 (zI hM (Nat.mod_lt a om)) ?_;rintro r w1 e1 ⟨x0,rfl,hx0,hc0⟩;have ew:=(Ext.refl aa w.here).drew.trans e1;refine mJ (((hR.ext ew).cell 2).trans rfl) (k1 _ ew) ?_;have hM:=hM.ext e1
 have red:∀{w':TW},Ext aa w1 w'→∀{x y:Nat} {X Y:Int},x<p→y<p→cg p x ((W64:Nat)*X)→cg p y ((W64:Nat)*Y)→∀{K:Int→TW→Prop},(∀(z:Nat) w'',Ext aa w' w''→z<p→cg p z ((W64:Nat)*(X*Y))→K z w'')→
   cl Pg F.aL [.int .u64 (x:Nat),.int .u64 (y:Nat)] w' [.one (.int .u64),.one (.int .u64)] λ(r1:Int)(r2:Int) w3=>cl Pg F.cL [.pointer (some ⟨b,0,none⟩),.int .u64 r1,.int .u64 r2] w3 [.one (.int .u64)] K:=by
  intro w' e' x y X Y hx hy hX hY K hK;refine c2 (bits_Mul64 (Nat.lt_trans hx hpW) (Nat.lt_trans hy hpW)) ?_;rintro hi lo w2 e2 ⟨rfl,rfl⟩;refine c1 (p8 ((hM.ext e').ext e2) (Nat.mod_lt _ dcd) (ob hx hy hpW)) ?_;rintro r w3 e3 ⟨z,rfl,hz,hc⟩;refine hK z w3 (e2.trans e3) hz (hM.cancel (hc.trans ?_));have hdm:=Nat.div_add_mod (x*y) W64
  have e:((x*y/W64:Nat):Int)*(W64:Nat)+(x*y%W64:Nat)=(x:Int)*y:=by
   rw [←Int.natCast_mul,←Int.natCast_add,Nat.mul_comm (x*y/W64),hdm];simp
  rw [e];refine (hX.mul hY).trans (cg.of ?_);grind
 refine j1 (λ(out:Int) w2=>∃(o:Nat),out=o∧o<p∧cg p o ((W64:Nat)*(a:Int)^n)∧Ext aa w1 w2) ?_ ?_
 ·refine lp3 (λm (n2 x out:Int) w2=>∃(o y:Nat) (X A:Int),n2=m∧x=y∧out=o∧m<W64∧y<p∧o<p∧cg p y ((W64:Nat)*X)∧cg p o ((W64:Nat)*A)∧cg p (A*X^m) ((a:Int)^n)∧Ext aa w1 w2) n ⟨one,x0,((a%p:Nat):Int),1,rfl,rfl,rfl,by assumption,hx0,hone,hc0,?_,?_,Ext.refl _ _⟩ ?_
  ·rw [h3,Int.mul_one];exact cg.mod
  ·rw [Int.one_mul];exact cg.mod.pow n
  rintro k n2 x out w2 ⟨o,y,X,A,rfl,rfl,rfl,hk,hy,ho,hX,hA,hAX,e2⟩;refine ac (λhc=>?_) (λhc=>?_)
  ·refine eP (x:=k) (y:=2) rfl rfl dcd ?_;refine j1 (λ(out:Int) w3=>∃(o':Nat) (A':Int),out=o'∧o'<p∧cg p o' ((W64:Nat)*A')∧cg p (A'*(X*X)^(k/2)) ((a:Int)^n)∧Ext aa w2 w3) ?_ ?_
   ·have hsq:(X*X)^(k/2)=X^(2*(k/2)):=by rw [Int.pow_mul,show X^2=X*X by grind]
    refine aG (λh1=>?_) (λh1=>?_)
    ·have h1:k%2=1:=by
      have:((k%2:Nat):Int)=1:=by simpa using h1
      omega
     refine red e2 ho hy hA hX λz w3 e3 hz hcz=>⟨z,A*X,rfl,hz,hcz,?_,e3⟩
     refine (cg.of ?_).trans hAX;have e:k=2*(k/2)+1:=om;rw [hsq];conv=>rhs;rw [e,Int.pow_succ]
     grind
    ·have h1:k%2=0:=by
      rcases Nat.mod_two_eq_zero_or_one k with h|h
      ·exact h
      ·rw [h] at h1;simp at h1
     refine⟨o,A,rfl,ho,hA,?_,Ext.refl _ _⟩;have e:2*(k/2)=k:=om;rw [hsq,e];exact hAX
   rintro out w3 ⟨o',A',rfl,ho',hA',hAX',e3⟩;refine red (e2.trans e3) hy hy hX hX λz w4 e4 hz hcz=>?_
   refine j6 (x:=k) (y:=2) rfl rfl hk dcd ⟨k/2,om,o',z,X*X,A',rfl,rfl,rfl,by rw [w64] at hk ⊢;omega,hz,ho',hcz,hA',hAX',(e2.trans e3).trans e4⟩
  ·have:k=0:=om;subst this;rw [Int.pow_zero,Int.mul_one] at hAX;exact⟨o,rfl,ho,hA.trans ((cg.rfl').mul hAX),e2⟩
 rintro out w2 ⟨o,rfl,ho,hO,e2⟩;refine c1 (p8 (hi:=0) (hM.ext e2) (Nat.lt_trans ho hpW) om) ?_;rintro r w3 e3 ⟨z,rfl,hz,hc⟩;refine rt1 (c:=.int .u64) _ ((ew.trans e2).trans e3) ?_;have hcz:cg p z ((a:Int)^n):=hM.cancel (hc.trans (by simpa using hO));have:=cg.nat (p:=p) (x:=z) (y:=a^n%p) (hcz.trans (by have:=(@cg.mod p (a^n)).symm;simpa using this)) om (by have:=Nat.mod_lt (a^n) (show 0<p by omega);omega);rw [this]
theorem pn(h:Md w m p)(hc:∃b,a*b%p=1):Ct Pg F.eF [.pointer m,.int .u64 a] w aa [.one (.int .u64),.one .bool] λ(r:Int)(ok:Bool) _=>ok=true∧∃x:Nat,r=x∧x<p∧a*x%p=1:=by
 have hp:=h.rng;have hpW:p<W64:=by rw [w64];omega
 refine Ct.eF ?_;unfold Sh.eF;have hM:=h.here.drew;refine hM.p (hM.p (eP rfl rfl om ?_))
 have hg:Nat.gcd p (a%p)=1:=by
  obtain⟨b,hb⟩:=hc;rw [Nat.gcd_comm,Nat.gcd_comm (a%p),Nat.gcd_comm,←Nat.gcd_rec];have h1:Nat.gcd p a ∣ a*b:=Nat.dvd_trans (Nat.gcd_dvd_right _ _) (Nat.dvd_mul_right _ _);have h2:Nat.gcd p a ∣ p*(a*b/p):=Nat.dvd_trans (Nat.gcd_dvd_left _ _) (Nat.dvd_mul_right _ _);have h3:=Nat.div_add_mod (a*b) p;rw [hb] at h3;refine Nat.dvd_one.1 ((Nat.dvd_add_right h2).1 ?_);rw [h3];exact h1
 refine j2 (λ(r x:Int) w'=>r=1∧∃y:Nat,x=y∧y<p∧cg p ((y:Int)*a) 1∧Ext aa w.here.drew w') ?_ ?_
 ·refine lp4 (λk (r s x y:Int) w'=>∃r' x' y':Nat,r=r'∧s=k∧x=x'∧y=y'∧r'<W64∧k<p∧x'<p∧y'<p∧Nat.gcd r' k=1∧cg p ((x':Int)*a) r'∧cg p ((y':Int)*a) k∧Ext aa w.here.drew w') (a%p)
   ⟨p,0,1,rfl,rfl,rfl,rfl,hpW,Nat.mod_lt _ om,om,om,hg,⟨-1,by simp;omega⟩,by simpa using (@cg.mod p a).symm,Ext.refl _ _⟩ ?_
  rintro k r s x y w1 ⟨r',x',y',rfl,rfl,rfl,rfl,hr,hk,hx,hy,hgcd,hX,hY,e1⟩;refine ac (λhc=>?_) (λhc=>?_)
  ·have hk0:0<k:=om;have hdm:=Nat.div_add_mod r' k;have hml:=Nat.mod_lt r' hk0;refine j6 rfl rfl hr om ?_;obtain⟨q,hq⟩:∃q,r'/k=q:=⟨_,rfl⟩;obtain⟨t,ht⟩:∃t,r'%k=t:=⟨_,rfl⟩;rw [ht] at hml;rw [hq,ht] at hdm;rw [hq];have hqk:q*k≤r':=by rw [Nat.mul_comm];omega
   refine ai (y:=q*k) smp (Nat.lt_of_le_of_lt hqk hr) (fA rfl rfl hqk hr ?_);rw [show r'-q*k=t by rw [Nat.mul_comm];omega];refine (hM.ext e1).p (eP rfl rfl om ?_);refine c1 (vr (hM.ext e1) (Nat.mod_lt q om) hy) ?_;rintro z w2 e2 rfl;refine c1 (vq ((hM.ext e1).ext e2) hx (Nat.mod_lt _ om)) ?_;rintro z2 w3 e3 rfl;refine⟨t,hml,k,y',_,rfl,rfl,rfl,rfl,by rw [w64] at *;omega,om,hy,Nat.mod_lt _ om,?_,hY,?_,(e1.trans e2).trans e3⟩
   ·rw [←hgcd,←ht,Nat.gcd_comm r' k,Nat.gcd_comm k (r'%k),←Nat.gcd_rec,Nat.gcd_comm]
   ·have hlt:=Nat.mod_lt (q%p*y') (show 0<p by omega)
    have h1:cg p (((q%p*y'%p:Nat):Int)) ((q:Int)*y'):=by
     refine cg.mod.trans ?_;have:=(@cg.mod p q).mul (cg.rfl' (p:=p) (x:=(y':Int)));simpa using this
    have h2:cg p (((x'+p-q%p*y'%p)%p:Nat):Int) ((x':Int)-q*y'):=by
     refine cg.mod.trans ?_;rw [show ((x'+p-q%p*y'%p:Nat):Int)=(x':Int)+p-((q%p*y'%p:Nat):Int) by omega];have h3:cg p ((x':Int)+p) x':=⟨1,om⟩;exact h3.sub h1
    refine (h2.mul (cg.rfl' (p:=p) (x:=(a:Int)))).trans ?_;have h4:=hX.sub ((cg.rfl' (p:=p) (x:=(q:Int))).mul hY);refine (cg.of ?_).trans (h4.trans (cg.of ?_))
    ·grind
    ·have:(r':Int)=k*q+t:=by rw [←Int.natCast_mul,←Int.natCast_add,hdm]
     rw [this];grind
  ·have:k=0:=om;subst this;rw [Nat.gcd_zero_right] at hgcd;subst hgcd;exact⟨rfl,x',rfl,hx,hX,e1⟩
 rintro r x w1 ⟨rfl,y,rfl,hy,hcg,e1⟩;refine ap dcd ?_;refine rt2 (c:=.int .u64) (d:=.bool) _ _ ((Ext.refl aa w.here).drew.trans e1) ⟨rfl,y,rfl,hy,?_⟩;refine cg.nat (p:=p) (y:=1) (cg.mod.trans ?_) (by have:=Nat.mod_lt (a*y) (show 0<p by omega);omega) om;refine (cg.of ?_).trans hcg;simp [Int.mul_comm]
end
theorem acy{W p z:Int}(hk:2*k≤64)(h:∃c,p*v=1+(2:Int)^k*c)(hz:∃d,z=v*(2-p*v)+(2:Int)^64*d):∃c,p*z=1+(2:Int)^(2*k)*c:=by
 obtain⟨c,hc⟩:=h;obtain⟨d,hd⟩:=hz;refine⟨-(c*c)+p*((2:Int)^(64-2*k))*d,?_⟩;have e1:(2:Int)^64=(2:Int)^(2*k)*(2:Int)^(64-2*k):=by rw [←Int.pow_add];congr 1;omega
 have e2:(2:Int)^(2*k)=(2:Int)^k*(2:Int)^k:=by rw [←Int.pow_add];congr 1;omega
 have e3:p*z=p*v*(2-p*v)+p*((2:Int)^64*d):=by rw [hd];grind
 rw [e3,hc,e1,e2];grind
theorem aaO{p:Int}(hjk:k≤j)(h:∃c,p*v=1+(2:Int)^j*c):∃c,p*v=1+(2:Int)^k*c:=by
 obtain⟨c,hc⟩:=h;refine⟨(2:Int)^(j-k)*c,?_⟩;rw [hc,←Int.mul_assoc,←Int.pow_add];congr 3;omega
theorem modw_New{w:TW}{p:Nat}(h3:3≤p)(hlt:p<4611686018427387904)(hodd:p%2=1):Ct Pg F.i9 [.int .u64 p] w aa [.one .ptr,.one (.int .i64)] λ(m:Option Addr)(e:Int) w'=>e=0∧Md w' m p∧∃b,m=some ⟨b,0,none⟩∧w.w.heap.size≤b:=by
 refine Ct.i9 ?_;unfold Sh.i9;generalize hL:(4611686018427387904:Int)=L;have hpW:p<W64:=by rw [w64];omega
 refine j1 (λ(b:Bool) w'=>b=false∧w'=w.here) ?_ ?_
 ·refine ac (λh=>om) (λ_=>eP (x:=p) (y:=2) rfl rfl dcd ?_);rw [hodd];refine ap dcd ⟨decide_eq_false om,rfl⟩
 rintro b w1 ⟨rfl,rfl⟩;refine ap rfl ?_;refine j1 (λ(v:Int) w'=>∃u:Nat,v=u∧u<W64∧(∃c,(p:Int)*u=1+(2:Int)^64*c)∧w'=w.here) ?_ ?_
 ·refine lp2 (λk (v i:Int) w'=>∃(u j:Nat),v=u∧i=j∧k=6-j∧j≤6∧u<W64∧(∃c,(p:Int)*u=1+(2:Int)^(min 64 (3*2^j))*c)∧w'=w.here) 6 ⟨p,0,rfl,rfl,rfl,om,hpW,?_,rfl⟩ ?_
  ·obtain⟨t,ht⟩:∃t,p=2*t+1:=⟨p/2,om⟩
   obtain⟨u,hu⟩:∃u,t*t+t=2*u:=by
    rcases Nat.mod_two_eq_zero_or_one t with h|h
    ·exact⟨(t/2)*(t+1),by
      have:t=2*(t/2):=om;generalize t/2=z at *;subst this;grind⟩
    ·exact⟨((t+1)/2)*t,by
      have:t+1=2*((t+1)/2):=om;generalize (t+1)/2=z at*;have:t=2*z-1:=om;have h2:t*t+t=t*(t+1):=by grind
      rw [h2,‹t+1=2*z›];grind⟩
   refine⟨u,?_⟩
   have e:p*p=1+8*u:=by
    have:p*p=1+4*(t*t+t):=by rw [ht];grind
    omega
   rw [←Int.natCast_mul,e];simp
  rintro k v i w2 ⟨u,j,rfl,rfl,rfl,hj,hu,hc,rfl⟩;refine ac (λh=>?_) (λh=>?_)
  ·refine uz (a:=p*u) smp λn1 k1 hn1 f1=>?_
   unfold bnd
   obtain⟨d2,hd2⟩:∃d:Int,wu (2-(n1:Int))=2-n1+18446744073709551616*d:=by
    rw [wu,IntKind.wrap_u64];exact⟨-((2-(n1:Int))/18446744073709551616),om⟩
   obtain⟨x2,hx2⟩:∃x:Int,x=wu (2-(n1:Int)):=⟨_,rfl⟩;rw [←hx2] at hd2 ⊢
   obtain⟨d3,hd3⟩:∃d:Int,wu ((u:Int)*x2)=(u:Int)*x2+18446744073709551616*d:=by
    generalize (u:Int)*x2=y;rw [wu,IntKind.wrap_u64];exact⟨-(y/18446744073709551616),om⟩
   obtain⟨x3,hx3⟩:∃x:Int,x=wu ((u:Int)*x2):=⟨_,rfl⟩;have hr:0≤x3∧x3<18446744073709551616:=by rw [hx3,wu,IntKind.wrap_u64];omega
   rw [←hx3] at hd3 ⊢;have hj1:wi ((j:Int)+1)=((j+1:Nat):Int):=by rw [ar om om];omega
   rw [hj1];refine⟨6-(j+1),om,x3.toNat,j+1,om,rfl,rfl,om,by rw [w64];omega,?_,rfl⟩;rw [show ((x3.toNat:Nat):Int)=x3 by omega]
   obtain⟨kk,hkk,hk1,hk2⟩:∃kk,2*kk≤64∧kk≤min 64 (3*2^j)∧2*kk=min 64 (3*2^(j+1)):=by
    have:j=0∨j=1∨j=2∨j=3∨j=4∨j=5:=om;rcases this with rfl|rfl|rfl|rfl|rfl|rfl
    ·exact⟨3,dcd,dcd,dcd⟩
    ·exact⟨6,dcd,dcd,dcd⟩
    ·exact⟨12,dcd,dcd,dcd⟩
    ·exact⟨24,dcd,dcd,dcd⟩
    ·exact⟨32,dcd,dcd,dcd⟩
    ·exact⟨32,dcd,dcd,dcd⟩
   rw [←hk2];refine acy (W:=0) hkk (aaO hk1 hc) ⟨(u:Int)*(k1+d2)+d3,?_⟩
   have f1':(n1:Int)=p*u-18446744073709551616*k1:=by
    have:((n1+18446744073709551616*k1:Nat):Int)=((p*u:Nat):Int):=by rw [f1]
    simp at this;omega
   rw [hd3,hd2,f1',show (2:Int)^64=18446744073709551616 by decide];grind
  ·have:j=6:=om;subst this;exact⟨u,rfl,hu,hc,rfl⟩
 rintro v w1 ⟨u,rfl,hu,⟨c,hc⟩,rfl⟩
 have hneg:wu (0-(u:Int))=(((W64-u)%W64:Nat):Int):=by
  rw [wu,IntKind.wrap_u64];rw [w64] at *;omega
 refine ag hneg ?_;obtain⟨neg,hng⟩:∃n,n=(W64-u)%W64:=⟨_,rfl⟩;rw [←hng];intro b w2 hn;have R0:Rw w2 b [U p,U neg,U 0,U 0]:=⟨⟨_,hn.heap⟩,λhV=>by rw [hn.V] at hV;have:=w.here.lt _ hV;have:=hn.at_;omega⟩;have e2:Ext aa w.here w2:=hn.ext _;have hb:w.w.heap.size≤b:=Nat.le_of_eq hn.at_.symm;rw [show ((1:Int))=((1:Nat):Int) from rfl,show ((0:Int))=((0:Nat):Int) from rfl];refine c2 (bits_Div64 (hi:=1) (lo:=0) dcd hpW om) ?_;rintro q r w3 e3 ⟨rfl,rfl⟩;have R1:=R0.ext e3;rw [show (1*W64+0)%p=W64%p by rw [Nat.one_mul,Nat.add_zero]];refine R1.put (j:=2) rfl smp (U (W64%p)) λw4 R2 e4=>?_
 have R2:Rw w4 b [U p,U neg,U (W64%p),U 0]:=R2;refine⟨(W64%p:Nat),(R2.cell 2).trans rfl,(W64%p:Nat),(R2.cell 2).trans rfl,?_⟩;have hl:=Nat.mod_lt W64 (show 0<p by omega);have e24:=(e2.trans e3).mine e4 λc hc=>by subst hc;exact hb
 have hM:∀a':Nat,∀w',Rw w' b [U p,U neg,U (W64%p),U a']→Ct Pg F.cM [.pointer (some ⟨b,0,none⟩),.int .u64 (W64%p:Nat),.int .u64 (W64%p:Nat)] w' aa [.one (.int .u64)] λ(r:Int) _=>r=((W64%p)*(W64%p)%p:Nat):=by
  intro a' w' hR;refine Ct.cM ?_;unfold Sh.cM;refine c2 (bits_Mul64 (Nat.lt_trans hl hpW) (Nat.lt_trans hl hpW)) ?_;rintro hi lo w1 e1 ⟨rfl,rfl⟩;refine ah ⟨(p:Nat),((hR.here.ext e1).cell 0).trans rfl,?_⟩;refine c2 (bits_Div64 (Nat.mod_lt _ dcd) hpW (ob hl hl hpW)) ?_;rintro q r w2 e2 ⟨rfl,rfl⟩;refine rt1 (c:=.int .u64) _ (e1.trans e2) ?_;have:=Nat.div_add_mod (W64%p*(W64%p)) W64;rw [show W64%p*(W64%p)/W64*W64+W64%p*(W64%p)%W64=W64%p*(W64%p) by rw [Nat.mul_comm];exact this]
 refine c1 (hM 0 w4.drew ⟨R2.at_,R2.V⟩) ?_;rintro r w5 e5 rfl;have R3:Rw w5 b [U p,U neg,U (W64%p),U 0]:=Rw.ext R2.drew e5;refine R3.put (j:=3) rfl smp (U (W64%p*(W64%p)%p)) λw6 R4 e6=>?_
 have R4:Rw w6 b [U p,U neg,U (W64%p),U (W64%p*(W64%p)%p)]:=R4;refine rt2 (c:=.ptr) (d:=.int .i64) (some ⟨b,0,none⟩) _ ((e24.drew.trans e5).mine e6 λc hc=>by subst hc;exact hb) ⟨rfl,⟨b,neg,_,_,rfl,R4.mv,by rw [hng];exact Nat.mod_lt _ dcd,?_,rfl,by rw [←Nat.mul_mod],h3,hlt,hodd⟩,b,rfl,hb⟩
 have hz:∃z:Int,((p*neg+1:Nat):Int)=18446744073709551616*z:=by
  rcases Nat.eq_zero_or_pos u with h0|h0
  ·subst h0;simp at hc;exfalso;have:(2:Int)^64=18446744073709551616:=dcd;omega
  ·have:neg=W64-u:=by rw [hng,Nat.mod_eq_of_lt om]
   refine⟨p-c,?_⟩;rw [this,Int.natCast_add,Int.natCast_mul,show ((W64-u:Nat):Int)=18446744073709551616-u by rw [w64] at hu ⊢;omega,Int.mul_sub,hc,show (2:Int)^64=18446744073709551616 by decide];simp;grind
 obtain⟨z,hz⟩:=hz;rw [w64];omega
end
section
variable {w w':TW} {a k n p x:Nat} {c10 c11 c12 c4 c5 c6 c7 c8 c9:CK}
def DB:List Nat:=[0,1,56,2,57,49,28,3,61,58,42,50,38,29,17,4,62,47,59,36,45,43,51,22,53,39,33,30,24,18,12,5,63,55,48,27,60,41,37,16,46,35,44,21,52,32,23,11,54,26,40,15,34,20,31,10,25,14,19,9,13,8,7,6]
def Gl(w:TW):Prop:=¬w.V G.iw∧∀i,i<64→w.w.cell? ⟨G.iw,i,none⟩=some (.int .u8 (DB.getD i 0:Nat))
theorem Gl.lt(h:Gl w):G.iw<w.w.heap.size:=World.block_lt_of_cell? w.w _ (h.2 0 dcd)
theorem Gl.extX{X:Nat→Prop}(h:Gl w)(e:Ext X w w')(hX:¬X G.iw):Gl w':=
 ⟨λhV=>(e.new _ hV).elim h.1 λh'=>by have:=h.lt;omega,λi hi=>(World.cell?_of_block (e.block _ h.lt hX (.inr h.1))).trans (h.2 i hi)⟩
theorem Gl.ext(h:Gl w)(e:Ext aa w w'):Gl w':=h.extX e λh=>h
theorem Gl.here(h:Gl w):Gl w.here:=⟨h.1,h.2⟩
theorem Gl.at(h:Gl w):Gl (w.at k):=⟨h.1,h.2⟩
theorem Gl.drew(h:Gl w):Gl w.drew:=⟨h.1,h.2⟩
def tzf:Nat→Nat→Nat
 | 0,_=>0
 | f+1,x=>if x%2=1 then 0 else tzf f (x/2)+1
theorem rM:∀(f t q:Nat),t<f→q%2=1→tzf f (2^t*q)=t
 | 0,t,q,h,_=>by omega
 | f+1,0,q,_,hq=>by simp [tzf,hq]
 | f+1,t+1,q,h,hq=>by
  have e:2^(t+1)*q=2*(2^t*q):=by rw [Nat.pow_succ];grind
  rw [e];show (if 2*(2^t*q)%2=1 then 0 else tzf f (2*(2^t*q)/2)+1)=t+1;rw [if_neg om,show 2*(2^t*q)/2=2^t*q by omega,rM f t q om hq]
theorem act{t q:Nat}(ht:t<64)(hx:2^t*(2*q+1)<2^64):2^t*(2*q+1) &&& (2^64-2^t*(2*q+1))=2^t:=by
 have hp:=Nat.two_pow_pos t;have e1:2^t*(2*q+1)=2^(t+1)*q+2^t:=by rw [Nat.pow_succ];grind
 have e2:2^t*(2*q+1)-1=2^(t+1)*q+(2^t-1):=by rw [e1];omega
 have e3:2^64-2^t*(2*q+1)=2^64-((2^t*(2*q+1)-1)+1):=by
  have:1≤2^t*(2*q+1):=by rw [e1];omega
  omega
 refine Nat.eq_of_testBit_eq λi=>?_
 rw [Nat.testBit_and,e3,Nat.testBit_two_pow_sub_succ om,e2,e1,Nat.testBit_two_pow_mul_add _ (by rw [Nat.pow_succ];omega),Nat.testBit_two_pow_mul_add _ (by rw [Nat.pow_succ];omega),Nat.testBit_two_pow];by_cases hi:i<t+1
 ·rw [if_pos hi,if_pos hi,Nat.testBit_two_pow_sub_one];by_cases h2:t=i
  ·subst h2;simp [ht]
  ·simp [h2]
 ·rw [if_neg hi,if_neg hi];have:¬t=i:=om;simp [this];intro h _;exact h
theorem aee:∀t,t<64→DB.getD (2^t*285870213051353865%18446744073709551616/2^58) 0=t∧2^t*285870213051353865%18446744073709551616/2^58<64:=dcd
theorem bits_TrailingZeros64(hw:Gl w)(hx:x<W64)(h0:0<x):Ct Pg F.bH [.int .u64 x] w aa [.one (.int .i64)] λ(r:Int) _=>r=tzf 64 x:=by
 refine Ct.bH ?_;unfold Sh.bH;obtain⟨t,q',ht,rfl,hq⟩:=oC 64 x (by rw [Nat.mod_eq_of_lt hx];omega);obtain⟨q,rfl⟩:∃q,q'=2*q+1:=⟨q'/2,om⟩;rw [rM 64 t _ ht hq];have hand:=act ht hx;refine ap ?_ ?_
 ·have:((2^t*(2*q+1):Nat):Int)≠0:=om;simpa using this
 obtain⟨X,hX⟩:∃X,X=2^t*(2*q+1):=⟨_,rfl⟩;rw [←hX] at hand hx h0 ⊢
 have hneg:wu (0-(X:Int))=((2^64-X:Nat):Int):=by
  rw [wu,IntKind.wrap_u64];have:(2:Nat)^64=18446744073709551616:=dcd;rw [this];rw [w64] at hx;omega
 refine ag hneg (qE rfl rfl hx (by show 2^64-X<2^64;omega) ?_);rw [hand];refine gy (y:=2^t*285870213051353865) smp ?_;refine jC (n:=58) rfl rfl dcd ?_;obtain⟨d1,d2⟩:=aee t ht;rw [w64];generalize 2^t*285870213051353865%18446744073709551616/2^58=k at*;refine⟨om,om,?_⟩;have hc:=hw.here.2 k d2;rw [d1] at hc;refine⟨(t:Nat),?_,ab om om (rt1 (c:=.int .i64) _ (Ext.refl _ _) rfl)⟩;rw [Int.toNat_natCast,Nat.mul_one,Addr.add_mk,Nat.zero_add];exact hc
def pwl(n:Nat):Nat→Nat→Nat→Nat→Nat
 | 0,_,_,out=>out
 | f+1,a,k,out=>if k=0 then out else pwl n f (a*a%n) (k/2) (if k%2=1 then out*a%n else out)
theorem zt{n:Nat}:∀(f a k out:Nat),k<2^f→out%n=out→pwl n f a k out=out*a^k%n
 | 0,a,k,out,hk,ho=>by
  have:k=0:=by simpa using hk
  subst this;simp [pwl,ho]
 | f+1,a,k,out,hk,ho=>by
  show (if k=0 then out else pwl n f (a*a%n) (k/2) (if k%2=1 then out*a%n else out))=_;split
  ·rename_i h;subst h;simp [ho]
  ·rw [zt f _ _ _ (by rw [Nat.pow_succ] at hk;omega) (by split<;>simp [ho])]
   have e1:∀z:Nat,z*(a*a%n)^(k/2)%n=z*a^(2*(k/2))%n:=λz=>by
    rw [Nat.mul_mod,Nat.pow_mod,Nat.mod_mod,←Nat.pow_mod,←Nat.mul_mod,Nat.pow_mul,show a^2=a*a by grind]
   rw [e1];split
   ·rename_i h;rw [Nat.mul_mod,Nat.mod_mod,←Nat.mul_mod,Nat.mul_assoc,←Nat.pow_succ',Nat.succ_eq_add_one,show 2*(k/2)+1=k by omega]
   ·rw [show 2*(k/2)=k by omega]
def wl(n:Nat):Nat→Nat→Bool
 | 0,_=>true
 | k+1,x=>if x*x%n=n-1 then false else wl n k (x*x%n)
def wit(a n d s:Nat):Bool:=if pwl n 64 (a%n) d (1%n)=0∨pwl n 64 (a%n) d (1%n)=1∨pwl n 64 (a%n) d (1%n)=n-1 then false else wl n (s-1) (pwl n 64 (a%n) d (1%n))
def bt:List Nat:=[2,3,5,7,11,13,17,19,23,29,31,37]
def isP(n:Nat):Bool:=if n<2 then false else match bt.find? (λp=>n%p == 0) with
 | some p=>n == p
 | none=>bt.all λp=>!wit p n ((n-1)/2^tzf 64 (n-1)) (tzf 64 (n-1))
theorem prime_mul{b:Nat}(ha:a<n)(hb:b<n)(hn:n<W64):Ct Pg F.iT [.int .u64 a,.int .u64 b,.int .u64 n] w aa [.one (.int .u64)] λ(r:Int) _=>r=(a*b%n:Nat):=by
 refine Ct.iT ?_;unfold Sh.iT;refine c2 (bits_Mul64 (Nat.lt_trans ha hn) (Nat.lt_trans hb hn)) ?_;rintro hi lo w1 e1 ⟨rfl,rfl⟩;refine c2 (bits_Div64 (Nat.mod_lt _ dcd) hn (ob ha hb hn)) ?_;rintro q r w2 e2 ⟨rfl,rfl⟩;refine rt1 (c:=.int .u64) _ (e1.trans e2) ?_;have:=Nat.div_add_mod (a*b) W64;rw [show a*b/W64*W64+a*b%W64=a*b by rw [Nat.mul_comm];exact this]
theorem prime_pow(ha:a<n)(hk:k<W64)(hn:n<W64):Ct Pg F.jK [.int .u64 a,.int .u64 k,.int .u64 n] w aa [.one (.int .u64)] λ(r:Int) _=>r=(pwl n 64 a k (1%n):Nat):=by
 refine Ct.jK ?_;unfold Sh.jK;refine eP (x:=1) (y:=n) rfl rfl om ?_;refine j1 (λ(r:Int) w'=>r=(pwl n 64 a k (1%n):Nat)∧Ext aa w.here w') ?_ ?_
 ·refine lp3 (λm (a1 k1 out:Int) w'=>∃f b j o:Nat,a1=b∧k1=j∧out=o∧m=f∧b<n∧o<n∧j<2^f∧f≤64∧pwl n f b j o=pwl n 64 a k (1%n)∧Ext aa w.here w') 64 ⟨64,a,k,_,rfl,rfl,rfl,rfl,ha,Nat.mod_lt _ om,hk,Nat.le_refl _,rfl,Ext.refl _ _⟩ ?_;rintro m a1 k1 out w1 ⟨f,b,j,o,rfl,rfl,rfl,rfl,hb,ho,hj,hf,hp,e1⟩;refine ac (λhc=>?_) (λhc=>?_)
  ·obtain⟨g,rfl⟩:∃g,m=g+1:=⟨m-1,by
    rcases Nat.eq_zero_or_pos m with h|h
    ·subst h;simp at hj;omega
    ·omega⟩
   have hp:(if j=0 then o else pwl n g (b*b%n) (j/2) (if j%2=1 then o*b%n else o))=_:=hp;rw [if_neg om] at hp;refine eP (x:=j) (y:=2) rfl rfl dcd ?_;refine j1 (λ(r:Int) w2=>r=((if j%2=1 then o*b%n else o:Nat):Nat)∧Ext aa w1 w2) ?_ ?_
   ·refine aG (λh1=>?_) (λh1=>?_)
    ·have h1:j%2=1:=by
      have:((j%2:Nat):Int)=1:=by simpa using h1
      omega
     rw [if_pos h1];refine c1 (prime_mul ho hb hn) ?_;rintro r w2 e2 rfl;exact⟨rfl,e2⟩
    ·have h1:¬j%2=1:=λh=>by rw [h] at h1;simp at h1
     rw [if_neg h1];exact⟨rfl,Ext.refl _ _⟩
   rintro r w2 ⟨rfl,e2⟩;refine c1 (prime_mul hb hb hn) ?_;rintro r w3 e3 rfl;have hj64:j<W64:=Nat.lt_of_lt_of_le hj (Nat.pow_le_pow_right dcd hf);refine j6 (x:=j) (y:=2) rfl rfl hj64 dcd ⟨g,om,g,_,_,_,rfl,rfl,rfl,rfl,Nat.mod_lt _ om,?_,?_,om,hp,(e1.trans e2).trans e3⟩
   ·split
    ·exact Nat.mod_lt _ om
    ·exact ho
   ·rw [Nat.pow_succ] at hj;omega
  ·have:j=0:=om;subst this;have:pwl n m b 0 o=o:=by cases m<;>simp [pwl]
   rw [this] at hp;exact⟨by rw [hp],e1⟩
 rintro r w1 ⟨rfl,e1⟩;exact rt1 (c:=.int .u64) _ e1 rfl
theorem zp{n:Nat}:∀(f a k out:Nat),out<n→pwl n f a k out<n
 | 0,_,_,_,h=>h
 | f+1,a,k,out,h=>by
  show (if k=0 then out else pwl n f (a*a%n) (k/2) (if k%2=1 then out*a%n else out))<n;split
  ·exact h
  ·refine zp f _ _ _ ?_;split
   ·exact Nat.mod_lt _ om
   ·exact h
theorem prime_witness{d s:Nat}(hn0:2≤n)(ha:a<W64)(hd:d<W64)(hn:n<W64)(hs:1≤s)(hs2:s≤64):Ct Pg F.go [.int .u64 a,.int .u64 n,.int .u64 d,.int .i64 s] w aa [.one .bool] λ(r:Bool) _=>r=wit a n d s:=by
 refine Ct.go ?_;unfold Sh.go;refine eP rfl rfl om ?_;refine c1 (prime_pow (Nat.mod_lt a om) hd hn) ?_;rintro r w1 e1 rfl;unfold wit;have hx:=zp 64 (a%n) d (1%n) (Nat.mod_lt _ om);generalize pwl n 64 (a%n) d (1%n)=x at*;rw [w64] at hn;refine j1 (λ(b:Bool) w'=>b=decide (x=0∨x=1∨x=n-1)∧w'=w1) ?_ ?_
 ·refine aG (λh=>⟨?_,rfl⟩) (λh=>?_)
  ·have h:x=0:=by
    have:(x:Int)=0:=by simpa using h
    omega
   exact (decide_eq_true (.inl h)).symm
  have h:x≠0:=λh'=>by simp [h'] at h
  refine aG (λh=>⟨?_,rfl⟩) (λh=>?_)
  ·have h:x=1:=by
    have:(x:Int)=1:=by simpa using h
    omega
   exact (decide_eq_true (.inr (.inl h))).symm
  have h:x≠1:=λh'=>by simp [h'] at h
  refine fA (a:=n) (b:=1) rfl rfl om (by rw [w64];omega) ⟨?_,rfl⟩;rw [Bool.eq_iff_iff,decide_eq_true_iff]
  have:(((x:Int) == ((n-1:Nat):Int))=true)↔x=n-1:=by
   rw [beq_iff_eq];omega
  rw [this];omega
 rintro b w1 ⟨rfl,rfl⟩;refine ac (λh=>?_) (λh=>?_)
 ·exact rt1 (c:=.bool) _ e1 (if_pos h).symm
 rw [if_neg h];refine ab om om ?_;refine j0 (λw'=>wl n (s-1) x=true∧Ext aa w1 w') ?_ ?_
 ·refine lp2 (λm (x1 i:Int) w'=>∃y j:Nat,x1=y∧i=j∧m=s-1-j∧j≤s-1∧y<n∧wl n m y=wl n (s-1) x∧Ext aa w1 w') (s-1) ⟨x,0,rfl,rfl,rfl,om,hx,rfl,Ext.refl _ _⟩ ?_;rintro m x1 i w2 ⟨y,j,rfl,rfl,rfl,hj,hy,hw,e2⟩;refine ac (λh=>?_) (λh=>?_)
  ·refine c1 (prime_mul hy hy (by rw [w64];exact hn)) ?_;rintro r w3 e3 rfl;obtain⟨g,hg⟩:∃g,s-1-j=g+1:=⟨s-1-j-1,om⟩;rw [hg] at hw;have hw:(if y*y%n=n-1 then false else wl n g (y*y%n))=_:=hw;have hlt:=Nat.mod_lt (y*y) (show 0<n by omega);refine fA (a:=n) (b:=1) rfl rfl om (by rw [w64];omega) ?_;refine aG (λh=>?_) (λh=>?_)
   ·have h:y*y%n=n-1:=by rw [beq_iff_eq] at h;omega
    rw [if_pos h] at hw;exact rt1 (c:=.bool) _ ((e1.trans e2).trans e3) hw
   ·have h:¬y*y%n=n-1:=λh'=>by rw [h'] at h;simp at h
    rw [if_neg h] at hw;exact ab om om ⟨g,om,_,j+1,rfl,om,om,om,hlt,hw,e2.trans e3⟩
  ·have:s-1-j=0:=om;rw [this] at hw;exact⟨hw.symm,e2⟩
 rintro w2 ⟨hw,e2⟩;exact rt1 (c:=.bool) _ (e1.trans e2) hw.symm
theorem ab3(hx:x<W64)(h0:0<x)(h2:x%2=0):1≤tzf 64 x∧tzf 64 x<64:=by
 obtain⟨t,q,ht,rfl,hq⟩:=oC 64 x (by rw [Nat.mod_eq_of_lt hx];omega);rw [rM 64 t q ht hq];refine⟨?_,ht⟩;rcases Nat.eq_zero_or_pos t with h|h
 ·subst h;simp at h2;omega
 ·exact h
theorem aeB{c1 c2 c3 c13:CK}{body:Tel [c1,c2,c3,c4,c5,c6,c7,c8,c9,c10,c11,c12,c13] (TW→(Tel [c1,c2,c3,c4,c5,c6,c7,c8,c9,c10,c11,c12,c13] (TW→Prop))→Prop)}{x1:CV c1}{x2:CV c2}{x3:CV c3}{x4:CV c4}{x5:CV c5}{x6:CV c6}{x7:CV c7}{x8:CV c8}{x9:CV c9}{x10:CV c10}{x11:CV c11}{x12:CV c12}{x13:CV c13}(I:Nat→CV c1→CV c2→CV c3→CV c4→CV c5→CV c6→CV c7→CV c8→CV c9→CV c10→CV c11→CV c12→CV c13→TW→Prop)(m:Nat)(h0:I m x1 x2 x3 x4 x5 x6 x7 x8 x9 x10 x11 x12 x13 w)(hs:∀m x1 x2 x3 x4 x5 x6 x7 x8 x9 x10 x11 x12 x13 w,I m x1 x2 x3 x4 x5 x6 x7 x8 x9 x10 x11 x12 x13 w→body x1 x2 x3 x4 x5 x6 x7 x8 x9 x10 x11 x12 x13 w (λy1 y2 y3 y4 y5 y6 y7 y8 y9 y10 y11 y12 y13 w'=>∃m',m'<m∧I m' y1 y2 y3 y4 y5 y6 y7 y8 y9 y10 y11 y12 y13 w')):Lp [c1,c2,c3,c4,c5,c6,c7,c8,c9,c10,c11,c12,c13] body x1 x2 x3 x4 x5 x6 x7 x8 x9 x10 x11 x12 x13 w:=⟨I,⟨m,h0⟩,hs⟩
theorem j12{c1 c2 c3:CK}{A:(CV c1→CV c2→CV c3→CV c4→CV c5→CV c6→CV c7→CV c8→CV c9→CV c10→CV c11→CV c12→TW→Prop)→Prop}{K:CV c1→CV c2→CV c3→CV c4→CV c5→CV c6→CV c7→CV c8→CV c9→CV c10→CV c11→CV c12→TW→Prop}(J:CV c1→CV c2→CV c3→CV c4→CV c5→CV c6→CV c7→CV c8→CV c9→CV c10→CV c11→CV c12→TW→Prop)(h1:A J)(h2:∀x1 x2 x3 x4 x5 x6 x7 x8 x9 x10 x11 x12 w,J x1 x2 x3 x4 x5 x6 x7 x8 x9 x10 x11 x12 w→K x1 x2 x3 x4 x5 x6 x7 x8 x9 x10 x11 x12 w):Jn [c1,c2,c3,c4,c5,c6,c7,c8,c9,c10,c11,c12] A K:=⟨J,h1,h2⟩
theorem xp{α:Type}{P:α→Bool}{x:α}:∀{l:List α} {j:Nat},(∀y∈l.take j,P y=false)→l[j]?=some x→P x=true→l.find? P=some x
 | [],j,_,h,_=>by simp at h
 | y::l,0,_,h,hx=>by
  have:y=x:=by simpa using h
  subst this;rw [List.find?_cons_of_pos hx]
 | y::l,j+1,hn,h,hx=>by
  have hy:=hn y smp;rw [List.find?_cons_of_neg (by simp [hy])];exact xp (j:=j) (λz hz=>hn z (by rw [List.take_succ_cons];exact List.mem_cons_of_mem _ hz)) (by simpa using h) hx
set_option maxHeartbeats 1000000 in
theorem prime_Is(hw:Gl w)(hn:n<W64):Ct Pg F.jT [.int .u64 n] w aa [.one .bool] λ(r:Bool) _=>r=isP n:=by
 refine Ct.jT ?_;unfold Sh.jT isP;refine ac (λh=>?_) (λh=>?_)
 ·rw [if_pos om];exact rt1 (c:=.bool) _ (Ext.refl _ _) rfl
 rw [if_neg om];intro w1 e1 w2 e2;have e12:=e1.trans e2;refine j12 (λ(s0 s1 s2 s3 s4 s5 s6 s7 s8 s9 s10 s11:Int) w'=>(s0=2∧s1=3∧s2=5∧s3=7∧s4=11∧s5=13∧s6=17∧s7=19∧s8=23∧s9=29∧s10=31∧s11=37)∧bt.find? (λp=>n%p == 0)=none∧Ext aa w2 w') ?_ ?_
 ·refine aeB (λm (i s0 s1 s2 s3 s4 s5 s6 s7 s8 s9 s10 s11:Int) w'=>∃j:Nat,i=j∧m=12-j∧j≤12∧(s0=2∧s1=3∧s2=5∧s3=7∧s4=11∧s5=13∧s6=17∧s7=19∧s8=23∧s9=29∧s10=31∧s11=37)∧(∀p∈bt.take j,n%p≠0)∧w'=w2) 12 ⟨0,rfl,rfl,om,⟨rfl,rfl,rfl,rfl,rfl,rfl,rfl,rfl,rfl,rfl,rfl,rfl⟩,smp,rfl⟩ ?_;rintro m i s0 s1 s2 s3 s4 s5 s6 s7 s8 s9 s10 s11 w3 ⟨j,rfl,rfl,hj,hS,hp,rfl⟩;refine ac (λhc=>?_) (λhc=>?_)
  ·have hj12:j<12:=om
   have hcell:∀j,j<12→([.int .u64 2,.int .u64 3,.int .u64 5,.int .u64 7,.int .u64 11,.int .u64 13,.int .u64 17,.int .u64 19,.int .u64 23,.int .u64 29,.int .u64 31,.int .u64 37]:List Value)[j]?=some (U (bt.getD j 0))∧bt.getD j 0≠0:=by
    intro j hj;have:j=0∨j=1∨j=2∨j=3∨j=4∨j=5∨j=6∨j=7∨j=8∨j=9∨j=10∨j=11:=om;rcases this with rfl|rfl|rfl|rfl|rfl|rfl|rfl|rfl|rfl|rfl|rfl|rfl<;>exact⟨rfl,dcd⟩
   obtain⟨hc1,hc2⟩:=hcell j hj12;refine⟨om,om,(bt.getD j 0:Nat),?_,?_⟩
   ·rw [Int.toNat_natCast,Nat.mul_one];exact hc1
   have htk:bt.take (j+1)=bt.take j++[bt.getD j 0]:=by
    rw [List.take_add_one];have:bt[j]?=some (bt.getD j 0):=by rw [List.getD_eq_getElem?_getD,List.getElem?_eq_getElem (show j<bt.length by exact hj12)];rfl
    rw [this];rfl
   refine eP rfl rfl hc2 ?_;refine aG (λh=>?_) (λh=>?_)
   ·have h:n%bt.getD j 0=0:=by rw [beq_iff_eq] at h;omega
    have hf:bt.find? (λp=>n%p == 0)=some (bt.getD j 0):=by
     refine xp (j:=j) (λp hp'=>by simpa using hp p hp') ?_ (by simpa using h);rw [List.getD_eq_getElem?_getD,List.getElem?_eq_getElem (show j<bt.length by exact hj12)];rfl
    rw [hf];refine rt1 (c:=.bool) _ e12 ?_;show ((n:Int) == (bt.getD j 0:Nat))=(n == bt.getD j 0);rw [Bool.eq_iff_iff,beq_iff_eq,beq_iff_eq];omega
   ·have h:¬n%bt.getD j 0=0:=λh'=>by rw [h'] at h;simp at h
    refine ab om om ⟨12-(j+1),om,j+1,om,rfl,om,hS,?_,rfl⟩;rw [htk];intro p hp';rcases List.mem_append.1 hp' with h1|h1
    ·exact hp p h1
    ·rw [List.mem_singleton] at h1;rw [h1];exact h
  ·have:j=12:=om;subst this;refine⟨hS,?_,Ext.refl _ _⟩;rw [List.find?_eq_none];intro p hp';simpa using hp p hp'
 rintro s0 s1 s2 s3 s4 s5 s6 s7 s8 s9 s10 s11 w3 ⟨⟨rfl,rfl,rfl,rfl,rfl,rfl,rfl,rfl,rfl,rfl,rfl,rfl⟩,hnone,e3⟩;rw [hnone]
 have hodd:n%2≠0:=by
  rw [List.find?_eq_none] at hnone;have:=hnone 2 dcd;simpa using this
 have hn3:3≤n:=om;rw [w64] at hn;refine fA (a:=n) (b:=1) rfl rfl om (by rw [w64];omega) ?_;have e13:=e12.trans e3;refine c1 (bits_TrailingZeros64 ((hw.here).ext e13) (by rw [w64];omega) om) ?_;rintro r w4 e4 rfl;obtain⟨t1,t2⟩:=ab3 (x:=n-1) (by rw [w64];omega) om om;show bnd _ _;have e14:=e13.trans e4;obtain⟨t,ht⟩:∃t,tzf 64 (n-1)=t:=⟨_,rfl⟩;rw [ht] at t1 t2 ⊢;refine fA (a:=n) (b:=1) rfl rfl om (by rw [w64];omega) (ai (y:=t) rfl (by rw [w64];omega) (jC rfl rfl (by show t≤64;omega) ?_));obtain⟨d,hd⟩:∃d,(n-1)/2^t=d:=⟨_,rfl⟩;have hdW:d<W64:=by rw [←hd,w64];exact Nat.lt_of_le_of_lt (Nat.div_le_self _ _) om
 rw [hd];refine j0 (λw'=>(bt.all λp=>!wit p n d t)=true∧Ext aa w4 w') ?_ ?_
 ·refine lp1 (λm (i:Int) w'=>∃j:Nat,i=j∧m=12-j∧j≤12∧(∀p∈bt.take j,wit p n d t=false)∧Ext aa w4 w') 12 ⟨0,rfl,rfl,om,smp,Ext.refl _ _⟩ ?_;rintro m i w5 ⟨j,rfl,rfl,hj,hp,e5⟩;refine ac (λhc=>?_) (λhc=>?_)
  ·have hj12:j<12:=om
   have hcell:∀j,j<12→([.int .u64 2,.int .u64 3,.int .u64 5,.int .u64 7,.int .u64 11,.int .u64 13,.int .u64 17,.int .u64 19,.int .u64 23,.int .u64 29,.int .u64 31,.int .u64 37]:List Value)[j]?=some (U (bt.getD j 0))∧bt.getD j 0<100:=by
    intro j hj;have:j=0∨j=1∨j=2∨j=3∨j=4∨j=5∨j=6∨j=7∨j=8∨j=9∨j=10∨j=11:=om;rcases this with rfl|rfl|rfl|rfl|rfl|rfl|rfl|rfl|rfl|rfl|rfl|rfl<;>exact⟨rfl,dcd⟩
   obtain⟨hc1,hc2⟩:=hcell j hj12;refine⟨om,om,(bt.getD j 0:Nat),?_,?_⟩
   ·rw [Int.toNat_natCast,Nat.mul_one];exact hc1
   have htk:bt.take (j+1)=bt.take j++[bt.getD j 0]:=by
    rw [List.take_add_one];have:bt[j]?=some (bt.getD j 0):=by rw [List.getD_eq_getElem?_getD,List.getElem?_eq_getElem (show j<bt.length by exact hj12)];rfl
    rw [this];rfl
   refine c1 (prime_witness om (by rw [w64];omega) hdW (by rw [w64];omega) t1 om) ?_;rintro b w6 e6 rfl;refine aG (λh=>?_) (λh=>?_)
   ·refine rt1 (c:=.bool) _ ((e14.trans e5).trans e6) ?_;symm;rw [←Bool.not_eq_true,List.all_eq_true];intro hall;have:=hall (bt.getD j 0) (by rw [List.getD_eq_getElem?_getD,List.getElem?_eq_getElem (show j<bt.length by exact hj12)];exact List.getElem_mem _);rw [h] at this;simp at this
   ·refine ab om om ⟨12-(j+1),om,j+1,om,rfl,om,?_,e5.trans e6⟩;rw [htk];intro p hp';rcases List.mem_append.1 hp' with h1|h1
    ·exact hp p h1
    ·rw [List.mem_singleton] at h1;rw [h1];exact h
  ·have:j=12:=om;subst this;refine⟨?_,e5⟩;rw [List.all_eq_true];intro p hp';have:=hp p hp';simp [this]
 rintro w5 ⟨hall,e5⟩;exact rt1 (c:=.bool) _ (e14.trans e5) hall.symm
theorem prime_Mod(hw:Gl w)(h3:3≤p)(hlt:p<4611686018427387904)(hodd:p%2=1)(hP:isP p=true):Ct Pg F.jk [.int .u64 p] w aa [.one .ptr,.one (.int .i64)] λ(m:Option Addr)(e:Int) w'=>e=0∧Md w' m p∧∃b,m=some ⟨b,0,none⟩∧w.w.heap.size≤b:=by
 refine Ct.jk ?_;unfold Sh.jk;generalize hL:(4611686018427387904:Int)=L;refine j1 (λ(b:Bool) w'=>b=false∧Ext aa w.here w') ?_ ?_
 ·refine eP (x:=p) (y:=2) rfl rfl dcd ?_;rw [hodd];refine ap dcd (ac (λh=>om) (λ_=>?_));refine c1 (prime_Is hw.here (by rw [w64];omega)) ?_;rintro b w1 e1 rfl;rw [hP];exact⟨rfl,e1⟩
 rintro b w1 ⟨rfl,e1⟩;refine ap rfl ?_;refine c2 (modw_New h3 hlt hodd) ?_;rintro m e w2 e2 ⟨rfl,hM,b,rfl,hb⟩;exact rt2 (c:=.ptr) (d:=.int .i64) _ _ (e1.trans e2) ⟨rfl,hM.at,b,rfl,Nat.le_trans e1.size hb⟩
theorem mc:(isP 180143985094819841=true∧isP 1945555039024054273=true∧isP 4179340454199820289=true)∧(pwl 180143985094819841 64 6 90071992547409920 1=180143985094819840∧pwl 1945555039024054273 64 5 972777519512027136 1=1945555039024054272∧pwl 4179340454199820289 64 3 2089670227099910144 1=4179340454199820288):=by
 refine⟨⟨krf,krf,krf⟩,krf,krf,krf⟩
def TP(p:Nat):Prop:=p=180143985094819841∨p=1945555039024054273∨p=4179340454199820289
theorem uN{g e:Nat}(h2:2≤p)(he:(p-1)/2=e)(hl:e<2^64)(h:pwl p 64 g e 1=p-1):g^((p-1)/2)%p=p-1:=by
 rw [zt 64 g e 1 hl (Nat.mod_eq_of_lt om),Nat.one_mul] at h;rw [he];exact h
theorem xM{P:Nat}(h:(P-1)%2^20=0):∀k,k≤20→(P-1)%2^k=0:=λk hk=>by
 have h1:2^k ∣ 2^20:=Nat.pow_dvd_pow 2 hk;exact Nat.mod_eq_zero_of_dvd (Nat.dvd_trans h1 (Nat.dvd_of_mod_eq_zero h))
theorem TP.ok(h:TP p):3≤p∧p<4611686018427387904∧p%2=1∧isP p=true∧(∃g,2≤g∧g≤6∧g^((p-1)/2)%p=p-1)∧∀k,k≤20→(p-1)%2^k=0:=by
 unfold TP at h;rcases h with h|h|h
 ·exact⟨om,om,om,by rw [h];exact mc.1.1,⟨6,dcd,dcd,uN om (e:=90071992547409920) om dcd (by rw [h];exact mc.2.1)⟩,xM (by rw [h])⟩
 ·exact⟨om,om,om,by rw [h];exact mc.1.2.1,⟨5,dcd,dcd,uN om (e:=972777519512027136) om dcd (by rw [h];exact mc.2.2.1)⟩,xM (by rw [h])⟩
 ·exact⟨om,om,om,by rw [h];exact mc.1.2.2,⟨3,dcd,dcd,uN om (e:=2089670227099910144) om dcd (by rw [h];exact mc.2.2.2)⟩,xM (by rw [h])⟩
theorem prime_Root{L:Nat}(hw:Gl w)(hp:TP p)(hL:L+1≤20):Ct Pg F.jj [.int .u64 p,.int .i64 ((L+1:Nat):Int)] w aa [.one (.int .u64),.one (.int .i64)] λ(r e:Int) _=>e=0∧∃x:Nat,r=x∧x<p∧x^2^L%p=p-1:=by
 obtain⟨h3,hlt,hodd,hP,⟨g,hg1,hg2,hg⟩,hdv⟩:=hp.ok;refine Ct.jj ?_;unfold Sh.jj;refine c2 (prime_Mod hw.here h3 hlt hodd hP) ?_;rintro m e w1 e1 ⟨rfl,hM,b,rfl,hb⟩;refine ap dcd ?_;have hp2:2^(L+1)≤2^20:=Nat.pow_le_pow_right dcd hL;have hp0:=Nat.two_pow_pos (L+1);refine j1 (λ(b:Bool) w'=>b=false∧w'=w1) ?_ ?_
 ·refine ac (λh=>om) (λ_=>ac (λh=>om) (λ_=>?_));refine fA (a:=p) (b:=1) rfl rfl om (by rw [w64];omega) (ai (y:=L+1) rfl (by rw [w64];omega) ?_);refine oy (x:=1) (n:=L+1) rfl rfl om ?_;rw [Nat.one_mul,Nat.mod_eq_of_lt (by rw [w64];omega)];refine eP rfl rfl om ?_;rw [hdv (L+1) hL];exact⟨rfl,rfl⟩
 rintro b' w1 ⟨rfl,rfl⟩;refine ap rfl (ap (by rw [Bool.eq_false_iff];simp;omega) ?_);refine j1 (λ(x:Int) w'=>∃y:Nat,x=y∧y≤6∧y^((p-1)/2)%p=p-1∧Ext aa w1 w') ?_ ?_
 ·refine lp1 (λm (x:Int) w'=>∃y:Nat,x=y∧m=g-y∧y≤g∧Ext aa w1 w') (g-2) ⟨2,rfl,rfl,hg1,Ext.refl _ _⟩ ?_;rintro k x w2 ⟨y,rfl,rfl,hy,e2⟩;refine fA (a:=p) (b:=1) rfl rfl om (by rw [w64];omega) (j6 (x:=p-1) (y:=2) rfl rfl (by rw [w64];omega) dcd ?_);refine c1 (vt (hM.ext e2) (by rw [w64];omega)) ?_;rintro r w3 e3 rfl;refine fA (a:=p) (b:=1) rfl rfl om (by rw [w64];omega) ?_;have hml:=Nat.mod_lt (y^((p-1)/2)) (show 0<p by omega);refine aG (λh=>?_) (λh=>?_)
  ·have hne:y≠g:=λh'=>by subst h';rw [hg] at h;simp at h
   exact ai (y:=y+1) om (by rw [w64];omega) ⟨g-(y+1),om,y+1,rfl,rfl,om,e2.trans e3⟩
  ·refine⟨y,rfl,om,?_,e2.trans e3⟩;have:((y^((p-1)/2)%p:Nat):Int)=((p-1:Nat):Int):=by simpa using h
   omega
 rintro x w2 ⟨y,rfl,hy,hy2,e2⟩;refine fA (a:=p) (b:=1) rfl rfl om (by rw [w64];omega) (ai (y:=L+1) rfl (by rw [w64];omega) (jC (x:=p-1) (n:=L+1) rfl rfl (by show L+1≤64;omega) ?_));refine c1 (vt (hM.ext e2) (by rw [w64];exact Nat.lt_of_le_of_lt (Nat.div_le_self _ _) om)) ?_;rintro r w3 e3 rfl;refine rt2 (c:=.int .u64) (d:=.int .i64) _ _ ((e1.trans e2).trans e3) ⟨rfl,_,rfl,Nat.mod_lt _ om,?_⟩;rw [←Nat.pow_mod,←Nat.pow_mul]
 have e:(p-1)/2^(L+1)*2^L=(p-1)/2:=by
  have h1:=Nat.div_add_mod (p-1) (2^(L+1));rw [hdv (L+1) hL,Nat.add_zero] at h1;generalize (p-1)/2^(L+1)=y' at*;rw [←h1,Nat.pow_succ,show 2^L*2*y'=2*(y'*2^L) by grind,Nat.mul_div_cancel_left _ dcd]
 rw [e];exact hy2
end
end Go.Proofs.YtpbimnlggalnfaaGreatDoor.Zg
