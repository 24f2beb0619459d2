/- A part of the proofs of this seat's laws. -/
import Derived.Test.YtpbimnlggalnfaaGreatDoorGMA
import Derived.Test.YtpbimnlggalnfaaGreatDoorGIA
import Derived.Test.YtpbimnlggalnfaaGreatDoorGIB
set_option linter.unusedVariables false
set_option linter.unusedSimpArgs false
set_option linter.unnecessarySimpa false
namespace Go.Proofs.YtpbimnlggalnfaaGreatDoor.Zg
open Go.RowKit
section
set_option maxRecDepth 100000
def sW:Nat→Nat→Nat→Nat→Option Nat
 | 0,_,_,c=>some c
 | f+1,n,acc,c=>bif isP n then (bif Nat.beq (Nat.gcd n acc) 1 then sW f (n-1) (acc*n) (c+1) else none) else sW f (n-1) acc c
def Nxp(p q:Nat):Prop:=q<p∧isP q=true∧∀r,q<r→r<p→isP r=false
def Sq(low:Nat):Nat→Nat→Nat→Prop
 | 0,_,_=>True
 | k+1,p,m=>∃q,Nxp p q∧low<q∧Nat.gcd q m=1∧Sq low k q (m*q)
theorem sU{low:Nat}:∀(f n p acc c d:Nat),low+f=n→n<p→(∀r,n<r→r<p→isP r=false)→sW f n acc c=some d→Sq low (d-c) p acc∧c≤d
 | 0,n,p,acc,c,d,h0,hn,hp,h=>by
  simp only [sW,Option.some.injEq] at h;subst h;simp [Sq]
 | f+1,n,p,acc,c,d,h0,hn,hp,h=>by
  unfold sW at h;cases hP:isP n with
  | false=>
   rw [hP] at h;refine sU (low:=low) f (n-1) p acc c d om om (λr h1 h2=>?_) h;rcases Nat.lt_or_ge n r with h3|h3
   ·exact hp r h3 h2
   ·obtain rfl:r=n:=om;exact hP
  | true=>
   rw [hP] at h;cases hg:Nat.beq (Nat.gcd n acc) 1 with
   | false=>rw [hg] at h;exact absurd h smp
   | true=>
    rw [hg] at h;obtain⟨h1,h2⟩:=sU (low:=low) f (n-1) n (acc*n) (c+1) d om om (λr h1 h2=>om) h;refine⟨?_,om⟩;obtain⟨k,hk⟩:∃k,d-c=k+1:=⟨d-(c+1),om⟩;rw [hk];rw [show d-(c+1)=k by omega] at h1;exact⟨n,⟨hn,hP,hp⟩,om,Nat.eq_of_beq_eq_true hg,h1⟩
theorem zk:sW 2800 4611686018427387903 1 0=some 72:=by decide +kernel
theorem aeo:Sq 2305843009213693952 72 4611686018427387904 1:=by
 have h:=(sU (low:=4611686018427385103) 2800 4611686018427387903 4611686018427387904 1 0 72 dcd dcd (λr h1 h2=>om) zk).1
 have:∀(k p m a b:Nat),b≤a→Sq a k p m→Sq b k p m:=λk=>by
  induction k with
  | zero=>intros;trivial
  | succ k ih=>
   rintro p m a b hab ⟨q,h1,h2,h3,h4⟩;exact⟨q,h1,om,h3,ih _ _ a b hab h4⟩
 exact this _ _ _ _ _ dcd h
end
section
set_option maxRecDepth 100000
variable {x:Int}
theorem aag{y M:Int}(h0:0≤y)(h1:y<M)(hd:M ∣ y-x):y=x%M:=by
 rw [←Int.emod_eq_of_lt h0 h1];exact Int.emod_eq_emod_iff_emod_sub_eq_zero.mpr (Int.emod_eq_zero_of_dvd hd)
theorem zH{R m r p inv:Nat}(hm:0<m)(hp:1<p)(hR:(R:Int)=x%m)(hr:(r:Int)=x%p)(hc:Nat.gcd p m=1)(hi:inv*(m%p)%p=1):
  ((R+m*(inv*((if r<R%p then r+p else r)-R%p)%p):Nat):Int)=x%((m*p:Nat):Int):=by
 have hRm:R<m:=by
  have:=Int.emod_lt_of_pos x (show (0:Int)<m by omega);omega
 have hrp:r<p:=by
  have:=Int.emod_lt_of_pos x (show (0:Int)<p by omega);omega
 have hh:R%p<p:=Nat.mod_lt _ om;generalize hd:(if r<R%p then r+p else r)-R%p=d
 have hd':(p:Int) ∣ (d:Int)-(r-R):=by
  have e:(R:Int)=p*((R/p:Nat):Int)+((R%p:Nat):Int):=by exact_mod_cast (Nat.div_add_mod R p).symm
  split at hd
  ·refine⟨1+((R/p:Nat):Int),?_⟩;rw [Int.mul_add,Int.mul_one];generalize (p:Int)*((R/p:Nat):Int)=z at*;omega
  ·refine⟨((R/p:Nat):Int),?_⟩;generalize (p:Int)*((R/p:Nat):Int)=z at*;omega
 generalize ht:inv*d%p=t;have htp:t<p:=by rw [←ht];exact Nat.mod_lt _ om
 have hq:(t:Int)=(inv:Int)*d-p*((inv*d/p:Nat):Int):=by
  have:=Nat.div_add_mod (inv*d) p;rw [ht] at this;have h2:(p:Int)*((inv*d/p:Nat):Int)+t=(inv:Int)*d:=by exact_mod_cast this
  omega
 have hi':∃z:Int,(inv:Int)*m=1+p*z:=by
  have e1:=Nat.div_add_mod (inv*(m%p)) p;rw [hi] at e1;have e2:=Nat.div_add_mod m p;have e3:(p:Int)*((inv*(m%p)/p:Nat):Int)+1=(inv:Int)*((m%p:Nat):Int):=by exact_mod_cast e1
  have e4:(p:Int)*((m/p:Nat):Int)+((m%p:Nat):Int)=m:=by exact_mod_cast e2
  exact⟨((inv*(m%p)/p:Nat):Int)+inv*((m/p:Nat):Int),by rw [←e4];grind⟩
 obtain⟨z,hz⟩:=hi';obtain⟨u,hu⟩:=hd'
 have h1:(p:Int) ∣ (((R+m*t:Nat):Int)-x):=by
  obtain⟨v,hv⟩:(p:Int) ∣ (r:Int)-x:=by
   exact⟨-(x/p),by rw [hr,Int.emod_def];grind⟩
  refine⟨z*d-m*((inv*d/p:Nat):Int)+u+v,?_⟩;push_cast;rw [hq];grind
 have h2:(m:Int) ∣ (((R+m*t:Nat):Int)-x):=by
  obtain⟨v,hv⟩:(m:Int) ∣ (R:Int)-x:=by
   exact⟨-(x/m),by rw [hR,Int.emod_def];grind⟩
  refine⟨t+v,?_⟩;push_cast;grind
 have hle:R+m*t<m*p:=by
  have:m*(t+1)≤m*p:=Nat.mul_le_mul_left _ htp;rw [Nat.mul_add] at this;omega
 refine aag om (by exact_mod_cast hle) ?_;rw [←Int.natAbs_dvd_natAbs,Int.natAbs_natCast];exact Nat.Coprime.mul_dvd_of_dvd_of_dvd ((Nat.gcd_comm _ _).trans hc) (by simpa using Int.natAbs_dvd_natAbs.mpr h2) (by simpa using Int.natAbs_dvd_natAbs.mpr h1)
end
section
set_option maxRecDepth 100000
def dT:List Int→List Int→List Int
 | [],b=>b
 | a,[]=>a
 | x::a,y::b=>(x+y)::dT a b
def pm:List Int→List Int→List Int
 | [],_=>[]
 | x::a,b=>dT (b.map (x*·)) (0::pm a b)
theorem bK:∀(a b:List Int) (i:Nat),(dT a b).getD i 0=a.getD i 0+b.getD i 0
 | [],b,i=>by simp [dT]
 | x::a,[],i=>by simp [dT]
 | x::a,y::b,0=>by simp [dT]
 | x::a,y::b,i+1=>by simpa [dT] using bK a b i
theorem jR(B:Int):∀(a b:List Int),ak B (dT a b)=ak B a+ak B b
 | [],b=>by simp [dT,ak]
 | x::a,[]=>by simp [dT,ak]
 | x::a,y::b=>by simp only [dT,ak,jR B a b];grind
theorem kA(B c:Int):∀(b:List Int),ak B (b.map (c*·))=c*ak B b
 | []=>by simp [ak]
 | y::b=>by simp only [List.map_cons,ak,kA B c b];grind
theorem dZ(B:Int)(b:List Int):∀(a:List Int),ak B (pm a b)=ak B a*ak B b
 | []=>by simp [pm,ak]
 | x::a=>by simp only [pm,jR,kA,ak,dZ B b a];grind
theorem jc:∀(a b:List Int),(∀B:Int,0<B→ak B a=ak B b)→∀i,a.getD i 0=b.getD i 0:=by
 have hz:∀(b:List Int),(∀B:Int,0<B→ak B b=0)→∀i,b.getD i 0=0:=by
  intro b;induction b with
  | nil=>intro _ i;simp
  | cons y b ih=>
   intro h
   have hy:y=0:=by
    have:=h (y.natAbs+1) om;simp only [ak] at this;have hd:((y.natAbs:Int)+1) ∣ y:=⟨-ak (y.natAbs+1) b,by grind⟩;exact Int.eq_zero_of_dvd_of_natAbs_lt_natAbs hd om
   subst hy
   have hb:∀B:Int,0<B→ak B b=0:=λB hB=>by
    have:=h B hB;simp only [ak,Int.zero_add] at this;rcases Int.mul_eq_zero.1 this with h|h
    ·omega
    ·exact h
   intro i;cases i with
   | zero=>rfl
   | succ i=>simpa using ih hb i
 intro a b h i;have:=hz (dT a (b.map ((-1)*·))) (λB hB=>by rw [jR,kA,h B hB];grind) i;rw [bK] at this
 have e:(b.map ((-1:Int)*·)).getD i 0=-(b.getD i 0):=by
  simp only [List.getD_eq_getElem?_getD,List.getElem?_map];cases b[i]?<;>simp
 rw [e] at this;omega
theorem Sg.shift(f:Nat→Int):∀n,Sg (n+1) f=f 0+Sg n λk=>f (k+1)
 | 0=>by simp [Sg]
 | n+1=>by rw [Sg,Sg.shift f n,Sg];grind
theorem ii(b:List Int):∀(a:List Int) (i:Nat),(pm a b).getD i 0=Sg (i+1) λu=>a.getD u 0*b.getD (i-u) 0
 | [],i=>by
  rw [Sg.congr (g:=λ_=>0) λk _=>by simp,Sg.zero];simp [pm]
 | x::a,i=>by
  have hm:(b.map (x*·)).getD i 0=x*b.getD i 0:=by
   simp only [List.getD_eq_getElem?_getD,List.getElem?_map];cases b[i]?<;>simp
  rw [pm,bK,hm,Sg.shift];cases i with
  | zero=>simp [Sg]
  | succ i=>
   have:=ii b a i;simp only [List.getD_cons_succ,List.getD_cons_zero,Nat.sub_zero,this];rw [Sg.congr (f:=λk=>a.getD k 0*b.getD (i+1-(k+1)) 0) (g:=λu=>a.getD u 0*b.getD (i-u) 0) λk _=>by rw [Nat.add_sub_add_right]]
theorem mT(a b:List Int)(i:Nat):(pm a b).getD i 0=(pm b a).getD i 0:=jc _ _ (λB _=>by rw [dZ,dZ,Int.mul_comm]) i
theorem aaT(a b c:List Int)(i:Nat):(pm (pm a b) c).getD i 0=(pm a (pm b c)).getD i 0:=jc _ _ (λB _=>by rw [dZ,dZ,dZ,dZ,Int.mul_assoc]) i
theorem abQ{A B:Nat}{b:List Int}(hb:∀i,(b.getD i 0).natAbs≤B):∀{a:List Int},(∀i,(a.getD i 0).natAbs≤A)→∀i,((pm a b).getD i 0).natAbs≤a.length*(A*B)
 | [],_,i=>by simp [pm]
 | x::a,ha,i=>by
  have hm:(b.map (x*·)).getD i 0=x*b.getD i 0:=by
   simp only [List.getD_eq_getElem?_getD,List.getElem?_map];cases b[i]?<;>simp
  have h1:(x*b.getD i 0).natAbs≤A*B:=by
   rw [Int.natAbs_mul];exact Nat.mul_le_mul (ha 0) (hb i)
  have h2:((0::pm a b).getD i 0).natAbs≤a.length*(A*B):=by
   cases i with
   | zero=>simp
   | succ i=>simpa using abQ hb (λj=>by simpa using ha (j+1)) i
  rw [pm,bK,hm,List.length_cons,Nat.add_mul,Nat.one_mul];generalize a.length*(A*B)=z at*;generalize A*B=y at*;omega
theorem rE:∀(a b:List Int),(dT a b).length=max a.length b.length
 | [],b=>by simp [dT]
 | x::a,[]=>by simp [dT]
 | x::a,y::b=>by simp [dT,rE a b]
theorem zy{b:List Int}(hb:b≠[]):∀{a:List Int},a≠[]→(pm a b).length=a.length+b.length-1
 | [x],_=>by
  have:=List.length_pos_iff.2 hb;simp [pm,rE];omega
 | x::y::a,_=>by
  have:=List.length_pos_iff.2 hb;rw [pm,rE,List.length_cons,zy hb (a:=y::a) smp];simp;omega
theorem adb{p:Int}{a b:List Int}{ra rb:List Nat}(ha:∀i,cg p (a.getD i 0) (ra.getD i 0:Nat))(hb:∀i,cg p (b.getD i 0) (rb.getD i 0:Nat))(i:Nat):cg p ((pm a b).getD i 0) (cv ra rb i:Nat):=by
 rw [ii];unfold cv;rw [qo];refine Sg.cg λk _=>?_
 push_cast;exact (ha k).mul (hb (i-k))
end
section
set_option maxRecDepth 100000
variable {a b:List Int}
theorem aT(l:List Int)(i:Nat):(ae l).getD i 0=l.getD i 0:=by
 obtain⟨k,hk⟩:=mw l;conv=>rhs;rw [hk]
 by_cases h:i<(ae l).length
 ·simp only [List.getD_eq_getElem?_getD];rw [List.getElem?_append_left h]
 ·simp only [List.getD_eq_getElem?_getD];rw [List.getElem?_append_right om,List.getElem?_eq_none om,List.getElem?_replicate];split<;>rfl
def Nm(l:List Int):Prop:=∀z,l.getLast?=some z→z≠0
theorem Nm.trim(l:List Int):Nm (ae l):=by
 intro z hz;unfold ae at hz;rw [List.getLast?_reverse] at hz;intro h0;subst h0;have:=List.head?_dropWhile_not (λx:Int=>x == 0) l.reverse;rw [hz] at this;simp at this
theorem Nm.get{l:List Int}(h:Nm l)(h0:l≠[]):l.getD (l.length-1) 0≠0:=by
 have hl:=List.length_pos_iff.2 h0;refine h _ ?_;rw [List.getLast?_eq_getElem?,List.getD_eq_getElem?_getD,List.getElem?_eq_getElem om];rfl
theorem Nm.ext(ha:Nm a)(hb:Nm b)(h:∀i,a.getD i 0=b.getD i 0):a=b:=by
 have key:∀{a b:List Int},Nm b→(∀i,a.getD i 0=b.getD i 0)→b.length≤a.length:=fun {a b} hb h=>by
  rcases Nat.lt_or_ge a.length b.length with hl|hl
  ·exfalso;have h0:b≠[]:=λh=>by simp [h] at hl
   refine hb.get h0 ?_;rw [←h,List.getD_eq_getElem?_getD,List.getElem?_eq_none om];rfl
  ·exact hl
 have e:a.length=b.length:=Nat.le_antisymm (key ha λi=>(h i).symm) (key hb h);refine List.ext_getElem e λi h1 h2=>?_
 have:=h i;simpa [List.getD_eq_getElem?_getD,List.getElem?_eq_getElem h1,List.getElem?_eq_getElem h2] using this
def pmt(a b:List Int):List Int:=ae (pm a b)
theorem iZ(a b:List Int)(i:Nat):(pmt a b).getD i 0=(pm a b).getD i 0:=aT _ _
theorem lM(a b:List Int):Nm (pmt a b):=Nm.trim _
theorem aaS(a b:List Int):pmt a b=pmt b a:=(lM _ _).ext (lM _ _) λi=>by rw [iZ,iZ,mT]
theorem fT{a' b':List Int}(ha:∀i,a.getD i 0=a'.getD i 0)(hb:∀i,b.getD i 0=b'.getD i 0)(i:Nat):(pm a b).getD i 0=(pm a' b').getD i 0:=by
 rw [ii,ii];exact Sg.congr λk _=>by rw [ha,hb]
theorem vh(a b:List Int):pmt (ae a) (ae b)=pmt a b:=(lM _ _).ext (lM _ _) λi=>by
 rw [iZ,iZ,fT (aT a) (aT b)]
theorem su(l:List Int)(i:Nat):(l.getD i 0).natAbs≤2^hgt l-1:=by
 have h1:=fr (l.getD i 0).natAbs;have h2:=Nat.pow_le_pow_right (show 0<2 by omega) (oK (l:=l) i);omega
theorem pj(a b:List Int)(i:Nat):bl ((pm a b).getD i 0).natAbs≤hgt a+hgt b+bl (min a.length b.length):=by
 have key:∀a b:List Int,bl ((pm a b).getD i 0).natAbs≤hgt a+hgt b+bl a.length:=λa b=>by
  refine aY ?_;refine Nat.lt_of_le_of_lt (abQ (su b) (su a) i) ?_;have h1:=fr a.length;have h2:=Nat.two_pow_pos (hgt a);have h3:=Nat.two_pow_pos (hgt b)
  calc a.length*((2^hgt a-1)*(2^hgt b-1))≤a.length*(2^hgt a*2^hgt b):=Nat.mul_le_mul_left _ (Nat.mul_le_mul om om)
   _<2^bl a.length*(2^hgt a*2^hgt b):=Nat.mul_lt_mul_of_pos_right h1 (Nat.mul_pos h2 h3)
   _=2^(hgt a+hgt b+bl a.length):=by rw [Nat.pow_add,Nat.pow_add];grind
 rcases Nat.le_total a.length b.length with h|h
 ·rw [Nat.min_eq_left h];exact key a b
 ·rw [Nat.min_eq_right h,mT,Nat.add_comm (hgt a)];exact key b a
end
section
set_option maxRecDepth 100000
theorem aaF{x:Int}{R M:Nat}(h:2*x.natAbs<M)(hR:(R:Int)=x%(M:Int)):sgd R M=x:=by
 have hM:(0:Int)<M:=om;have h1:=Int.emod_lt_of_pos x hM;have hRM:R%M=R:=Nat.mod_eq_of_lt om;unfold sgd;rw [hRM];rcases (show x<0∨0≤x by omega) with hx|hx
 ·have e:x%(M:Int)=x+M:=by
   rw [←Int.add_emod_right,Int.emod_eq_of_lt om om]
  rw [e] at hR;rw [if_pos om];omega
 ·rw [Int.emod_eq_of_lt hx om] at hR;rw [if_neg om];omega
theorem zL{a b:List Int}{k:Nat}(hk:hgt a+hgt b+bl (min a.length b.length)+2≤k):Un (2^k) (ak ((2^k:Nat):Int) a*ak ((2^k:Nat):Int) b) (pmt a b):=by
 have hv:ak ((2^k:Nat):Int) (pmt a b)=ak ((2^k:Nat):Int) a*ak ((2^k:Nat):Int) b:=by
  rw [←dZ];obtain⟨j,hj⟩:=mw (pm a b)
  have hz:∀(B:Int) (l:List Int) (j:Nat),ak B (l++List.replicate j 0)=ak B l:=λB l j=>by
   induction l with
   | nil=>
    induction j with
    | zero=>rfl
    | succ j ih=>
     rw [List.replicate_succ];simp only [List.nil_append] at ih ⊢;simp only [ak,ih];simp [ak]
   | cons z l ih=>simp only [List.cons_append,ak,ih]
  conv=>rhs;rw [hj]
  rw [hz];rfl
 have h0:=(wP (Nat.two_pow_pos k) (l:=pmt a b) (λz hz=>?_) (lM a b)).1
 ·rwa [hv] at h0
 ·obtain⟨i,hi,rfl⟩:=List.getElem_of_mem hz;have e:(pmt a b).getD i 0=(pmt a b)[i]:=by rw [List.getD_eq_getElem?_getD,List.getElem?_eq_getElem hi];rfl
  have hb:=fM (pj a b i);rw [←iZ,e] at hb
  have h2:2^(hgt a+hgt b+bl (min a.length b.length))*4≤2^k:=by
   rw [show (4:Nat)=2^2 from rfl,←Nat.pow_add];exact Nat.pow_le_pow_right dcd hk
  omega
end
section
set_option maxRecDepth 100000
variable {h:Nat}
theorem pd(B:Int)(r:List Int):∀l:List Int,ak B (l++r)=ak B l+B^l.length*ak B r
 | []=>by simp [ak]
 | z::l=>by simp only [List.cons_append,ak,pd B r l,List.length_cons,Int.pow_succ];grind
def shz(h:Nat)(l:List Int):List Int:=List.replicate h 0++l
theorem qm(B:Int)(h:Nat)(l:List Int):ak B (shz h l)=B^h*ak B l:=by
 have:ak B (List.replicate h 0)=0:=by
  induction h with
  | zero=>rfl
  | succ h ih=>rw [List.replicate_succ,ak,ih];simp
 rw [shz,pd,this,List.length_replicate,Int.zero_add]
def ngz(l:List Int):List Int:=l.map ((-1)*·)
theorem te(B:Int)(l:List Int):ak B (ngz l)=-ak B l:=by rw [ngz,kA];grind
theorem ads(a0 a1 b0 b1:List Int)(h0:a0.length=h)(h1:b0.length=h)(i:Nat):
  (pm (a0++a1) (b0++b1)).getD i 0=(dT (pm a0 b0) (dT (shz h (dT (pm (dT a0 a1) (dT b0 b1)) (ngz (dT (pm a0 b0) (pm a1 b1))))) (shz (2*h) (pm a1 b1)))).getD i 0:=
 jc _ _ (λB _=>by
  simp only [dZ,pd,jR,qm,te,h0,h1,show 2*h=h+h by omega,Int.pow_add];grind) i
theorem adt(a0 a1 b:List Int)(h0:a0.length=h)(i:Nat):(pm (a0++a1) b).getD i 0=(dT (pm a0 b) (shz h (pm a1 b))).getD i 0:=
 jc _ _ (λB _=>by
  simp only [dZ,pd,jR,qm,h0];grind) i
theorem ad2{p:Int}{a a' b b':List Int}(ha:∀i,cg p (a.getD i 0) (a'.getD i 0))(hb:∀i,cg p (b.getD i 0) (b'.getD i 0))(i:Nat):cg p ((pm a b).getD i 0) ((pm a' b').getD i 0):=by
 rw [ii,ii];exact Sg.cg λk _=>(ha k).mul (hb (i-k))
def izl(l:List Nat):List Int:=l.map Int.ofNat
theorem lc(l:List Nat)(i:Nat):(izl l).getD i 0=((l.getD i 0:Nat):Int):=by
 simp only [izl,List.getD_eq_getElem?_getD,List.getElem?_map];cases l[i]?<;>simp
theorem ka(la lb:List Nat)(i:Nat):(pm (izl la) (izl lb)).getD i 0=((cv la lb i:Nat):Int):=by
 rw [ii];unfold cv;rw [qo];refine Sg.congr λk _=>?_
 rw [lc,lc];push_cast;rfl
theorem tk(a b:List Nat):izl (a++b)=izl a++izl b:=List.map_append
theorem tj(a:List Nat):(izl a).length=a.length:=List.length_map _
theorem ir(h:Nat)(l:List Int)(i:Nat):(shz h l).getD i 0=if i<h then 0 else l.getD (i-h) 0:=by
 unfold shz;simp only [List.getD_eq_getElem?_getD];split
 ·rename_i hi;rw [List.getElem?_append_left (by simpa using hi),List.getElem?_replicate,if_pos hi];rfl
 ·rename_i hi;rw [List.getElem?_append_right (by simp;omega),List.length_replicate]
theorem qy(l:List Int)(i:Nat):(ngz l).getD i 0=-(l.getD i 0):=by
 simp only [ngz,List.getD_eq_getElem?_getD,List.getElem?_map];cases l[i]?<;>simp
end
end Go.Proofs.YtpbimnlggalnfaaGreatDoor.Zg
