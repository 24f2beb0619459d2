/- A part of the proofs of this seat's laws. -/
import Derived.Test.YtpbimnlggalnfaaGreatDoorGNA
set_option linter.unusedVariables false
set_option linter.unusedSimpArgs false
set_option linter.unnecessarySimpa false
namespace Go.Proofs.YtpbimnlggalnfaaGreatDoor.Zg
open Go.RowKit
section
variable {a b l q q' r r':List Int} {h k m n:Nat} {c x y:Int}
def Sc(c:Int)(a:List Int):List Int:=ae (a.map (·*c))
def Ad(a b:List Int):List Int:=ae (dT a b)
def Sb(a b:List Int):List Int:=ae (dT a (ngz b))
theorem aZ{f:Int→Int}(hf:f 0=0)(a:List Int)(i:Nat):(a.map f).getD i 0=f (a.getD i 0):=by
 simp only [List.getD_eq_getElem?_getD,List.getElem?_map];cases a[i]?<;>simp [hf]
theorem iB(c:Int)(a:List Int)(i:Nat):(Sc c a).getD i 0=a.getD i 0*c:=by
 rw [Sc,aT,aZ smp]
theorem oS(a b:List Int)(i:Nat):(Ad a b).getD i 0=a.getD i 0+b.getD i 0:=by rw [Ad,aT,bK]
theorem kN(a b:List Int)(i:Nat):(Sb a b).getD i 0=a.getD i 0-b.getD i 0:=by rw [Sb,aT,bK,qy];omega
theorem gtb{i:Nat}(h:l.length≤i):l.getD i 0=0:=by
 rw [List.getD_eq_getElem?_getD,List.getElem?_eq_none h];rfl
theorem Nm.len_le(h:Nm a)(hz:∀i,n≤i→a.getD i 0=0):a.length≤n:=by
 rcases Nat.lt_or_ge n a.length with h1|h1
 ·exfalso;exact h.get (λe=>by rw [e] at h1;simp at h1) (hz _ om)
 ·exact h1
theorem dW:∀{l:List Int},(∀i,bl (l.getD i 0).natAbs≤n)→hgt l≤n:=by
 have key:∀(l:List Int) (m:Nat),m≤n→(∀i,bl (l.getD i 0).natAbs≤n)→(l.map λz=>bl z.natAbs).foldl max m≤n:=by
  intro l;induction l with
  | nil=>intro m hm _;exact hm
  | cons z l ih=>
   intro m hm h;rw [List.map_cons,List.foldl_cons];have h0:=h 0;simp only [List.getD_cons_zero] at h0;exact ih _ om λi=>by simpa using h (i+1)
 intro l h;exact key l 0 om h
theorem lh(hx:bl x.natAbs≤m)(hy:bl y.natAbs≤n):bl (x*y).natAbs≤m+n:=by
 rw [Int.natAbs_mul];refine aY ?_;rw [Nat.pow_add];exact Nat.mul_lt_mul'' (Nat.lt_of_lt_of_le (fr _) (Nat.pow_le_pow_right dcd hx)) (Nat.lt_of_lt_of_le (fr _) (Nat.pow_le_pow_right dcd hy))
theorem qH(hx:bl x.natAbs≤n)(hy:bl y.natAbs≤n):bl (x+y).natAbs≤n+1:=by
 have h1:=Nat.lt_of_lt_of_le (fr x.natAbs) (Nat.pow_le_pow_right dcd hx);have h2:=Nat.lt_of_lt_of_le (fr y.natAbs) (Nat.pow_le_pow_right dcd hy);refine aY ?_;rw [Nat.pow_succ];omega
theorem qF(hx:bl x.natAbs≤n)(hy:bl y.natAbs≤n):bl (x-y).natAbs≤n+1:=by
 rw [Int.sub_eq_add_neg];exact qH hx (by rw [Int.natAbs_neg];exact hy)
theorem bp(h:hgt l≤n)(i:Nat):bl (l.getD i 0).natAbs≤n:=Nat.le_trans (oK i) h
theorem mG(ha:hgt a≤m)(hc:bl c.natAbs≤n):hgt (Sc c a)≤m+n:=dW λi=>by rw [iB];exact lh (bp ha i) hc
theorem adx(ha:hgt a≤n)(hb:hgt b≤n):hgt (Ad a b)≤n+1:=dW λi=>by rw [oS];exact qH (bp ha i) (bp hb i)
theorem zY(ha:hgt a≤n)(hb:hgt b≤n):hgt (Sb a b)≤n+1:=dW λi=>by rw [kN];exact qF (bp ha i) (bp hb i)
theorem oJ(ha:hgt a≤n):hgt (shz h a)≤n:=dW λi=>by
 rw [ir];split
 ·simp [dX]
 ·exact bp ha _
theorem abZ{f:Nat→Int}{d:Nat}(h:∀u,u≠d→f u=0):∀{n:Nat},d<n→Sg n f=f d
 | n+1,hd=>by
  rw [Sg];rcases Nat.lt_or_ge d n with h1|h1
  ·rw [abZ h h1,h n om,Int.add_zero]
  ·have:d=n:=om;subst this
   have:∀m,m≤d→Sg m f=0:=λm hm=>by
    rw [Sg.congr (g:=λ_=>0) λu hu=>h u om,Sg.zero]
   rw [this d (Nat.le_refl _),Int.zero_add]
theorem pV{d e:Nat}(ha:∀i,d<i→a.getD i 0=0)(hb:∀i,e<i→b.getD i 0=0):(pm a b).getD (d+e) 0=a.getD d 0*b.getD e 0:=by
 rw [ii,abZ (d:=d) (λu hu=>?_) om,show d+e-d=e by omega];rcases Nat.lt_or_ge d u with h|h
 ·rw [ha u h,Int.zero_mul]
 ·rw [hb (d+e-u) om,Int.mul_zero]
structure PD (k:Nat) (a b q r:List Int):Prop where
 eq:∀i,(b.getD (b.length-1) 0)^k*a.getD i 0=(pm q b).getD i 0+r.getD i 0
 lt:∀i,b.length-1≤i→r.getD i 0=0
 nq:Nm q
 nr:Nm r
theorem qu(a a' b:List Int)(i:Nat):(pm (dT a a') b).getD i 0=(pm a b).getD i 0+(pm a' b).getD i 0:=by
 have:=jc (pm (dT a a') b) (dT (pm a b) (pm a' b)) (λB _=>by rw [dZ,jR,jR,dZ,dZ];grind) i;rw [this,bK]
theorem zx(a b:List Int)(i:Nat):(pm (ngz a) b).getD i 0=-(pm a b).getD i 0:=by
 have:=jc (pm (ngz a) b) (ngz (pm a b)) (λB _=>by rw [dZ,te,te,dZ];grind) i;rw [this,qy]
theorem no(c:Int)(a b:List Int)(i:Nat):(pm (a.map (c*·)) b).getD i 0=c*(pm a b).getD i 0:=by
 have:=jc (pm (a.map (c*·)) b) ((pm a b).map (c*·)) (λB _=>by rw [dZ,kA,kA,dZ];grind) i;rw [this,aZ smp]
theorem vi(h:Nat)(a b:List Int)(i:Nat):(pm (shz h a) b).getD i 0=(shz h (pm a b)).getD i 0:=
 jc _ _ (λB _=>by rw [dZ,qm,qm,dZ];grind) i
theorem PD.uniq(hb:Nm b)(h0:b≠[])(h:PD k a b q r)(h':PD k a b q' r'):q=q'∧r=r':=by
 have hl:b.getD (b.length-1) 0≠0:=hb.get h0;have hlb:∀i,b.length-1<i→b.getD i 0=0:=λi hi=>gtb om
 obtain⟨D,hD⟩:∃D,ae (dT q (ngz q'))=D:=⟨_,rfl⟩;have hDg:∀i,D.getD i 0=q.getD i 0-q'.getD i 0:=λi=>by rw [←hD,aT,bK,qy];omega
 have hDp:∀i,(pm D b).getD i 0=r'.getD i 0-r.getD i 0:=λi=>by
  have e1:=h.eq i;have e2:=h'.eq i;have e3:=fT (a:=D) (a':=dT q (ngz q')) (b:=b) (b':=b) (λi=>by rw [←hD,aT]) (λi=>rfl) i;rw [e3,qu,zx];omega
 have hDn:Nm D:=hD▸Nm.trim _
 have hDe:D=[]:=by
  rcases Nat.eq_zero_or_pos D.length with h1|h1
  ·exact List.length_eq_zero_iff.1 h1
  ·exfalso;have hne:D≠[]:=λe=>by rw [e] at h1;simp at h1
   have ht:=pV (a:=D) (b:=b) (d:=D.length-1) (e:=b.length-1) (λi hi=>gtb om) hlb;rw [hDp,h.lt _ om,h'.lt _ om] at ht;rcases Int.mul_eq_zero.1 (show D.getD (D.length-1) 0*b.getD (b.length-1) 0=0 by rw [←ht];simp) with h2|h2
   ·exact hDn.get hne h2
   ·exact hl h2
 have hz:∀i,D.getD i 0=0:=λi=>by rw [hDe];simp
 refine⟨h.nq.ext h'.nq λi=>?_,h.nr.ext h'.nr λi=>?_⟩
 ·have:=hDg i;rw [hz] at this;omega
 ·have:=hDp i;rw [hDe] at this;simp [pm] at this;simp only [List.getD_eq_getElem?_getD];omega
def prz(a b:List Int):Nat→List Int × List Int
 | 0=>([],a)
 | i+1=>(Ad (Sc (b.getD (b.length-1) 0) (prz a b i).1) (shz (a.length-i-b.length) (ae [(prz a b i).2.getD (a.length-1-i) 0])),
   Sb (Sc (b.getD (b.length-1) 0) (prz a b i).2) (shz (a.length-i-b.length) (Sc ((prz a b i).2.getD (a.length-1-i) 0) b)))
theorem tK(t:Int)(i:Nat):(ae [t]).getD i 0=if i=0 then t else 0:=by
 rw [aT];cases i<;>simp
theorem xk{t:Int}(hb:b≠[])(hc:c=b.getD (b.length-1) 0)(hn:n=h+(b.length-1))(ht:t=r.getD n 0)(he:∀i,c^k*a.getD i 0=(pm q b).getD i 0+r.getD i 0)(hz:∀i,n<i→r.getD i 0=0)(hq:∀i,q'.getD i 0=q.getD i 0*c+if i=h then t else 0)(hr:∀i,r'.getD i 0=r.getD i 0*c-if i<h then 0 else b.getD (i-h) 0*t):
  (∀i,c^(k+1)*a.getD i 0=(pm q' b).getD i 0+r'.getD i 0)∧∀i,n≤i→r'.getD i 0=0:=by
 have hq':∀i,q'.getD i 0=(dT (q.map (c*·)) (shz h [t])).getD i 0:=λi=>by
  rw [hq,bK,aZ smp,ir,Int.mul_comm];congr 1;by_cases h1:i=h
  ·rw [if_pos h1,if_neg om,h1,Nat.sub_self];rfl
  ·rw [if_neg h1];by_cases h2:i<h
   ·rw [if_pos h2]
   ·rw [if_neg h2,gtb (by simp;omega)]
 constructor
 ·intro i;rw [fT hq' (λi=>rfl),qu,no,vi,ir,hr,Int.pow_succ];have e1:=he i
  have e2:(if i<h then 0 else (pm [t] b).getD (i-h) 0)=if i<h then 0 else b.getD (i-h) 0*t:=by
   split
   ·rfl
   ·rw [pm,bK,aZ smp,pm];have:(([0]:List Int)).getD (i-h) 0=0:=by cases (i-h)<;>simp
    rw [this];grind
  rw [e2];have e3:c^k*c*a.getD i 0=c*(c^k*a.getD i 0):=by grind
  rw [e3,e1];grind
 ·intro i hi;rw [hr];have hbl:0<b.length:=List.length_pos_iff.2 hb;rcases Nat.lt_or_ge n i with h1|h1
  ·rw [hz i h1,if_neg om,gtb (l:=b) om];simp
  ·have:i=n:=om;subst this;rw [if_neg om,show i-h=b.length-1 by omega,←ht,←hc];grind
theorem vc{a b:List Int}(hb:b≠[]):∀i,i≤a.length+1-b.length→(∀j,(b.getD (b.length-1) 0)^i*a.getD j 0=(pm (prz a b i).1 b).getD j 0+(prz a b i).2.getD j 0)∧∀j,a.length-i≤j→(prz a b i).2.getD j 0=0
 | 0,_=>⟨λj=>by simp [prz,pm],λj hj=>gtb (by simpa [prz] using hj)⟩
 | i+1,hi=>by
  obtain⟨h1,h2⟩:=vc (a:=a) hb i om;have hbl:0<b.length:=List.length_pos_iff.2 hb;have hn:a.length-1-i=a.length-i-b.length+(b.length-1):=om;have hst:=xk (a:=a) (b:=b) (q:=(prz a b i).1) (r:=(prz a b i).2) (n:=a.length-1-i) (h:=a.length-i-b.length) hb rfl hn rfl h1 (λj hj=>h2 j om) (q':=(prz a b (i+1)).1) (r':=(prz a b (i+1)).2) (λj=>?_) (λj=>?_)
  ·exact⟨hst.1,λj hj=>hst.2 j om⟩
  ·rw [prz,oS,iB,ir,tK];congr 1;by_cases h3:j=a.length-i-b.length
   ·rw [if_pos h3,if_neg om,if_pos om]
   ·rw [if_neg h3];split
    ·rfl
    ·rw [if_neg om]
  ·rw [prz,kN,iB,ir,iB]
theorem ve(ha:Nm a):∀i,Nm (prz a b i).1∧Nm (prz a b i).2
 | 0=>⟨λz h=>by simp [prz] at h,ha⟩
 | i+1=>⟨Nm.trim _,Nm.trim _⟩
theorem vd(ha:Nm a)(hb:b≠[]):PD (a.length+1-b.length) a b (prz a b (a.length+1-b.length)).1 (prz a b (a.length+1-b.length)).2:=by
 obtain⟨h1,h2⟩:=vc (a:=a) hb (a.length+1-b.length) (Nat.le_refl _);have hbl:0<b.length:=List.length_pos_iff.2 hb;refine⟨h1,λi hi=>h2 i om,(ve ha _).1,(ve ha _).2⟩
theorem xf{a b:List Int}{A B:Nat}(ha:hgt a≤A)(hb:hgt b≤B):∀i,hgt (prz a b i).1≤A+i*(B+1)∧hgt (prz a b i).2≤A+i*(B+1)
 | 0=>⟨by simp [prz,hgt],by simpa [prz] using ha⟩
 | i+1=>by
  obtain⟨h1,h2⟩:=xf ha hb i;have hc:=bp hb (b.length-1);rw [Nat.add_mul,Nat.one_mul];constructor
  ·refine Nat.le_trans (adx (n:=A+i*(B+1)+B) (Nat.le_trans (mG h1 hc) (Nat.le_refl _)) (oJ (dW λj=>?_))) om;rw [tK];split
   ·exact Nat.le_trans (bp h2 _) om
   ·simp [dX]
  ·refine Nat.le_trans (zY (n:=A+i*(B+1)+B) (Nat.le_trans (mG h2 hc) (Nat.le_refl _)) (oJ ?_)) om;exact Nat.le_trans (mG hb (bp h2 _)) om
end
section
variable {a b:List Int} {n:Nat}
def ctn(a:List Int):Nat:=a.foldl (λg z=>Nat.gcd g z.natAbs) 0
theorem xE:∀(a:List Int) (g:Nat),(a.foldl (λg z=>Nat.gcd g z.natAbs) g) ∣ g∧∀z∈a,(a.foldl (λg z=>Nat.gcd g z.natAbs) g) ∣ z.natAbs
 | [],g=>⟨Nat.dvd_refl _,λz h=>by simp at h⟩
 | z::a,g=>by
  obtain⟨h1,h2⟩:=xE a (Nat.gcd g z.natAbs);rw [List.foldl_cons];refine⟨Nat.dvd_trans h1 (Nat.gcd_dvd_left _ _),λy hy=>?_⟩;rcases List.mem_cons.1 hy with rfl|hy
  ·exact Nat.dvd_trans h1 (Nat.gcd_dvd_right _ _)
  ·exact h2 y hy
theorem xu{d:Nat}:∀(a:List Int) (g:Nat),d ∣ g→(∀z∈a,d ∣ z.natAbs)→d ∣ a.foldl (λg z=>Nat.gcd g z.natAbs) g
 | [],g,h,_=>h
 | z::a,g,h,h2=>xu a _ (Nat.dvd_gcd h (h2 z smp)) λy hy=>h2 y (by simp [hy])
theorem aa5{z:Int}(h:z∈a):∃i,i<a.length∧a.getD i 0=z:=by
 obtain⟨i,hi,rfl⟩:=List.getElem_of_mem h;exact⟨i,hi,by simp [hi]⟩
theorem abi{i:Nat}(h:i<a.length):a.getD i 0∈a:=by
 rw [List.getD_eq_getElem?_getD,List.getElem?_eq_getElem h];exact List.getElem_mem h
theorem qC(a:List Int)(i:Nat):ctn a ∣ (a.getD i 0).natAbs:=by
 by_cases h:i<a.length
 ·exact (xE a 0).2 _ (abi h)
 ·rw [gtb om];simp
theorem qB{d:Nat}(h:∀i,d ∣ (a.getD i 0).natAbs):d ∣ ctn a:=xu a 0 (Nat.dvd_zero _) λz hz=>by
 obtain⟨i,_,rfl⟩:=aa5 hz;exact h i
theorem oP(h:Nm a)(h0:a≠[]):0<ctn a:=by
 rcases Nat.eq_zero_or_pos (ctn a) with h1|h1
 ·exfalso;have:=qC a (a.length-1);rw [h1,Nat.zero_dvd] at this;exact h.get h0 om
 ·exact h1
def ldz(a:List Int):Int:=a.getD (a.length-1) 0
def cpz(a:List Int):Int:=if ldz a<0 then -(ctn a:Int) else ctn a
def ppz(a:List Int):List Int:=a.map λx=>x/cpz a
theorem kC(a:List Int):(cpz a).natAbs=ctn a:=by unfold cpz;split<;>omega
theorem xh(a:List Int)(i:Nat):(ppz a).getD i 0=a.getD i 0/cpz a:=aZ smp a i
theorem xF(a:List Int)(i:Nat):cpz a ∣ a.getD i 0:=by
 rw [←Int.natAbs_dvd_natAbs,kC];exact qC a i
theorem oG(a:List Int)(i:Nat):cpz a*(ppz a).getD i 0=a.getD i 0:=by rw [xh];exact Int.mul_ediv_cancel' (xF a i)
theorem fL(a:List Int):(ppz a).length=a.length:=List.length_map _
theorem vg(h0:a≠[]):ppz a≠[]:=λe=>h0 (List.length_eq_zero_iff.1 (by rw [←fL,e];rfl))
theorem yf{l:List Int}(h:l≠[]→l.getD (l.length-1) 0≠0):Nm l:=λz hz=>by
 have h0:l≠[]:=λe=>by rw [e] at hz;simp at hz
 have:=h h0;rw [List.getLast?_eq_getElem?] at hz;rw [List.getD_eq_getElem?_getD,hz] at this;exact this
theorem lJ(h:Nm a):Nm (ppz a):=yf λh0=>by
 have ha:a≠[]:=λe=>h0 (by rw [e];rfl)
 intro e;have:=oG a (a.length-1);rw [fL] at e;rw [e,Int.mul_zero] at this;exact h.get ha this.symm
def Prm(a:List Int):Prop:=a=[]∨(ctn a=1∧0<ldz a)
theorem qt(h:Nm a):Prm (ppz a):=by
 by_cases h0:a=[]
 ·left;rw [h0];rfl
 right;have hp:=oP h h0;have hc:cpz a≠0:=λe=>by have:=kC a;rw [e] at this;simp at this;omega
 constructor
 ·have h1:ctn a*ctn (ppz a) ∣ ctn a:=qB λi=>by
   rw [←oG a i,Int.natAbs_mul,kC];exact Nat.mul_dvd_mul_left _ (qC _ i)
  have h2:ctn (ppz a) ∣ 1:=by
   obtain⟨k,hk⟩:=h1;refine⟨k,?_⟩;have:ctn a*1=ctn a*(ctn (ppz a)*k):=by rw [Nat.mul_one,←Nat.mul_assoc];exact hk
   exact Nat.eq_of_mul_eq_mul_left hp this
  exact Nat.dvd_one.1 h2
 ·have hm:=oG a (a.length-1);unfold ldz;rw [fL];have hl:=h.get h0;obtain⟨x,hx⟩:∃x,(ppz a).getD (a.length-1) 0=x:=⟨_,rfl⟩;rw [hx] at hm ⊢;unfold cpz at hm;split at hm
  ·rename_i hn;unfold ldz at hn;rcases Int.lt_or_le 0 x with h1|h1
   ·exact h1
   ·have:=Int.mul_nonneg_of_nonpos_of_nonpos (a:=-(ctn a:Int)) (b:=x) om h1;omega
  ·rename_i hn;unfold ldz at hn;rcases Int.lt_or_le 0 x with h1|h1
   ·exact h1
   ·have:=Int.mul_nonpos_of_nonneg_of_nonpos (a:=(ctn a:Int)) (b:=x) om h1;omega
theorem vG(h:hgt a≤n):hgt (ppz a)≤n:=dW λi=>by
 refine Nat.le_trans (aY ?_) h;have h1:=oG a i;have h2:=bp (Nat.le_refl (hgt a)) i;by_cases hc:cpz a=0
 ·rw [xh,hc,Int.ediv_zero];simp;exact Nat.two_pow_pos _
 ·refine Nat.lt_of_le_of_lt ?_ (Nat.lt_of_lt_of_le (fr (a.getD i 0).natAbs) (Nat.pow_le_pow_right dcd h2));rw [←h1,Int.natAbs_mul];exact Nat.le_mul_of_pos_left _ om
def lI(a b:List Int):List Int:=(prz a b (a.length+1-b.length)).2
theorem qY(ha:Nm a)(hb:b≠[]):(lI a b).length<b.length:=by
 have h:=vd ha hb;have hbl:0<b.length:=List.length_pos_iff.2 hb;have:=h.nr.len_le (n:=b.length-1) h.lt;unfold lI;omega
theorem tc(ha:Nm a):Nm (lI a b):=(ve ha _).2
def cmf:Nat→List Int→List Int→List Int
 | 0,a,_=>a
 | n+1,a,b=>if b=[] then a else cmf n b (ppz (lI a b))
theorem rD(n:Nat)(a:List Int):cmf n a []=a:=by cases n<;>simp [cmf]
theorem rC(hb:b≠[]):cmf (n+1) a b=cmf n b (ppz (lI a b)):=by rw [cmf,if_neg hb]
end
def xg(xs:List Int)(i:Nat):Int:=xs.getD i 0
def it(xs:List Int)(i:Nat):Nat→List Int
 | 0=>[1]
 | m+1=>if m=i then it xs i m else pmt (it xs i m) [-(xg xs m),1]
def dnz(xs:List Int)(i:Nat):Nat→Int
 | 0=>1
 | m+1=>if m=i then dnz xs i m else dnz xs i m*(xg xs i-xg xs m)
theorem aak{xs:List Int}{i:Nat}:∀{m:Nat},(∀k,k<m→k≠i→xg xs i≠xg xs k)→dnz xs i m≠0
 | 0,_=>by simp [dnz]
 | m+1,h=>by
  have ih:=aak (m:=m) λk hk=>h k om
  unfold dnz;split
  ·exact ih
  ·rename_i hm;refine Int.mul_ne_zero ih ?_;have:=h m om hm;omega
def ips(xs:List Int)(c:Nat→Int)(n j:Nat):Nat→Int
 | 0=>0
 | m+1=>ips xs c n j m+(it xs m n).getD j 0*c m
theorem aaR(a:List Int)(x y:Int):(pmt a [x,y]).length≤a.length+1:=by
 refine Nat.le_trans (ao _) ?_;by_cases ha:a=[]
 ·subst ha;simp [pm]
 ·rw [zy smp ha];simp
theorem sS{xs:List Int}{i H:Nat}(hx:∀k,bl (xg xs k).natAbs≤H):∀m,(it xs i m).length≤1+m∧hgt (it xs i m)≤1+m*(H+3)
 | 0=>by
  refine⟨by simp [it],dW λj=>?_⟩;show bl (([1]:List Int).getD j 0).natAbs≤_;match j with
  | 0=>exact Nat.le_trans (aY (k:=1) dcd) om
  | j+1=>simp [dX]
 | m+1=>by
  obtain⟨h1,h2⟩:=sS (i:=i) hx m;unfold it;rw [Nat.add_mul,Nat.one_mul];split
  ·exact⟨om,om⟩
  ·refine⟨Nat.le_trans (aaR _ _ _) om,dW λj=>?_⟩;rw [iZ];refine Nat.le_trans (pj _ _ j) ?_
   have h3:hgt [-(xg xs m),1]≤H+1:=dW λj=>by
    match j with
    | 0=>simp only [List.getD_cons_zero,Int.natAbs_neg];have:=hx m;omega
    | 1=>exact Nat.le_trans (aY (k:=1) smp) om
    | j+2=>simp [dX]
   have h4:bl (min (it xs i m).length [-(xg xs m),1].length)≤2:=aY (by simp;omega);omega
theorem aaj{xs:List Int}{i H:Nat}(hx:∀k,bl (xg xs k).natAbs≤H):∀m,bl (dnz xs i m).natAbs≤1+m*(H+1)
 | 0=>by simp only [dnz];exact Nat.le_trans (aY (k:=1) dcd) om
 | m+1=>by
  have ih:=aaj (i:=i) hx m;unfold dnz;rw [Nat.add_mul,Nat.one_mul];split
  ·omega
  ·exact Nat.le_trans (lh ih (qF (hx i) (hx m))) om
section
variable {c x:Int}
theorem zf(x c:Int):(if (!(decide (x<0) == decide (c<0)))=true then -((x.natAbs/c.natAbs:Nat):Int) else ((x.natAbs/c.natAbs:Nat):Int))=x.tdiv c:=by
 rcases Int.lt_or_le x 0 with hx|hx<;>rcases Int.lt_or_le c 0 with hc|hc
 ·obtain⟨X,hX⟩:∃X:Nat,x=-(X:Int):=⟨x.natAbs,om⟩;obtain⟨C,hC⟩:∃C:Nat,c=-(C:Int):=⟨c.natAbs,om⟩;rw [decide_eq_true hx,decide_eq_true hc];subst hX;subst hC;simp [Int.neg_tdiv,Int.tdiv_neg]
 ·obtain⟨X,hX⟩:∃X:Nat,x=-(X:Int):=⟨x.natAbs,om⟩;obtain⟨C,hC⟩:∃C:Nat,c=(C:Int):=⟨c.natAbs,om⟩;rw [decide_eq_true hx,decide_eq_false om];subst hX;subst hC;simp [Int.neg_tdiv,Int.tdiv_neg]
 ·obtain⟨X,hX⟩:∃X:Nat,x=(X:Int):=⟨x.natAbs,om⟩;obtain⟨C,hC⟩:∃C:Nat,c=-(C:Int):=⟨c.natAbs,om⟩;rw [decide_eq_false (show ¬x<0 by omega),decide_eq_true hc];subst hX;subst hC;simp [Int.neg_tdiv,Int.tdiv_neg]
 ·obtain⟨X,hX⟩:∃X:Nat,x=(X:Int):=⟨x.natAbs,om⟩;obtain⟨C,hC⟩:∃C:Nat,c=(C:Int):=⟨c.natAbs,om⟩;rw [decide_eq_false (show ¬x<0 by omega),decide_eq_false (show ¬c<0 by omega)];subst hX;subst hC;simp
theorem abp:c.natAbs ∣ x.natAbs↔c ∣ x:=Int.natAbs_dvd_natAbs
theorem zg(h:c ∣ x):x.tdiv c=x/c:=by
 obtain⟨q,rfl⟩:=h;by_cases hc:c=0
 ·subst hc;simp
 ·rw [Int.mul_tdiv_cancel_left _ hc,Int.mul_ediv_cancel_left _ hc]
end
end Go.Proofs.YtpbimnlggalnfaaGreatDoor.Zg
