/- A part of the proofs of this seat's laws: words, lemmas or contracts of its functions. -/
import Derived.Test.YtjhfalgmgagdhaaGreatDoorGMA
import Derived.Test.YtjhfalgmgagdhaaGreatDoorGIA
import Derived.Test.YtjhfalgmgagdhaaGreatDoorGIB
set_option linter.unusedVariables false
set_option linter.unusedSimpArgs false
set_option linter.unnecessarySimpa false
section
set_option maxRecDepth 100000
set_option linter.unusedVariables false
set_option linter.unusedSimpArgs false
namespace Go.Proofs.YtjhfalgmgagdhaaGreatDoor.Zg
def scan:Nat→Nat→Nat→Nat→Option Nat
 | 0,_,_,c=>some c
 | f+1,n,acc,c=>bif isP n then (bif Nat.beq (Nat.gcd n acc) 1 then scan f (n-1) (acc*n) (c+1) else none) else scan f (n-1) acc c
def Nxp (p q:Nat):Prop:=q<p∧isP q=true∧∀r,q<r→r<p→isP r=false
def Sq (low:Nat):Nat→Nat→Nat→Prop
 | 0,_,_=>True
 | k+1,p,m=>∃q,Nxp p q∧low<q∧Nat.gcd q m=1∧Sq low k q (m*q)
theorem scan_sq {low:Nat}:∀(f n p acc c d:Nat),low+f=n→n<p→(∀r,n<r→r<p→isP r=false)→scan f n acc c=some d→Sq low (d-c) p acc∧c≤d
 | 0,n,p,acc,c,d,h0,hn,hp,h=>by
  simp only [scan,Option.some.injEq] at h
  subst h
  simp [Sq]
 | f+1,n,p,acc,c,d,h0,hn,hp,h=>by
  unfold scan at h
  cases hP:isP n with
  | false=>
   rw [hP] at h
   refine scan_sq (low:=low) f (n-1) p acc c d (by omega) (by omega) (fun r h1 h2=>?_) h
   rcases Nat.lt_or_ge n r with h3|h3
   ·exact hp r h3 h2
   ·obtain rfl:r=n:=by omega
    exact hP
  | true=>
   rw [hP] at h
   cases hg:Nat.beq (Nat.gcd n acc) 1 with
   | false=>rw [hg] at h;exact absurd h (by simp)
   | true=>
    rw [hg] at h
    obtain ⟨h1,h2⟩:=scan_sq (low:=low) f (n-1) n (acc*n) (c+1) d (by omega) (by omega) (fun r h1 h2=>by omega) h
    refine ⟨?_,by omega⟩
    obtain ⟨k,hk⟩:∃k,d-c=k+1:=⟨d-(c+1),by omega⟩
    rw [hk]
    rw [show d-(c+1)=k by omega] at h1
    exact ⟨n,⟨hn,hP,hp⟩,by omega,Nat.eq_of_beq_eq_true hg,h1⟩
theorem scan_2800:scan 2800 4611686018427387903 1 0=some 72:=by decide +kernel
theorem sq72:Sq 2305843009213693952 72 4611686018427387904 1:=by
 have h:=(scan_sq (low:=4611686018427385103) 2800 4611686018427387903 4611686018427387904 1 0 72 (by decide) (by decide) (fun r h1 h2=>by omega) scan_2800).1
 have:∀(k p m a b:Nat),b≤a→Sq a k p m→Sq b k p m:=fun k=>by
  induction k with
  | zero=>intros;trivial
  | succ k ih=>
   rintro p m a b hab ⟨q,h1,h2,h3,h4⟩
   exact ⟨q,h1,by omega,h3,ih _ _ a b hab h4⟩
 exact this _ _ _ _ _ (by decide) h
end Go.Proofs.YtjhfalgmgagdhaaGreatDoor.Zg
end

section
set_option maxRecDepth 100000
set_option linter.unusedVariables false
set_option linter.unusedSimpArgs false
namespace Go.Proofs.YtjhfalgmgagdhaaGreatDoor.Zg
theorem emod_uniq {y x M:Int} (h0:0≤y) (h1:y<M) (hd:M ∣ y-x):y=x%M:=by
 rw [←Int.emod_eq_of_lt h0 h1]
 exact Int.emod_eq_emod_iff_emod_sub_eq_zero.mpr (Int.emod_eq_zero_of_dvd hd)
theorem more_step {x:Int} {R m r p inv:Nat} (hm:0<m) (hp:1<p) (hR:(R:Int)=x%m) (hr:(r:Int)=x%p) (hc:Nat.gcd p m=1) (hi:inv*(m%p)%p=1):
  ((R+m*(inv*((if r<R%p then r+p else r)-R%p)%p):Nat):Int)=x%((m*p:Nat):Int):=by
 have hRm:R<m:=by
  have:=Int.emod_lt_of_pos x (show (0:Int)<m by omega);omega
 have hrp:r<p:=by
  have:=Int.emod_lt_of_pos x (show (0:Int)<p by omega);omega
 have hh:R%p<p:=Nat.mod_lt _ (by omega)
 generalize hd:(if r<R%p then r+p else r)-R%p=d
 have hd':(p:Int) ∣ (d:Int)-(r-R):=by
  have e:(R:Int)=p*((R/p:Nat):Int)+((R%p:Nat):Int):=by exact_mod_cast (Nat.div_add_mod R p).symm
  split at hd
  ·refine ⟨1+((R/p:Nat):Int),?_⟩
   rw [Int.mul_add,Int.mul_one]
   generalize (p:Int)*((R/p:Nat):Int)=z at*
   omega
  ·refine ⟨((R/p:Nat):Int),?_⟩
   generalize (p:Int)*((R/p:Nat):Int)=z at*
   omega
 generalize ht:inv*d%p=t
 have htp:t<p:=by rw [←ht];exact Nat.mod_lt _ (by omega)
 have hq:(t:Int)=(inv:Int)*d-p*((inv*d/p:Nat):Int):=by
  have:=Nat.div_add_mod (inv*d) p
  rw [ht] at this
  have h2:(p:Int)*((inv*d/p:Nat):Int)+t=(inv:Int)*d:=by exact_mod_cast this
  omega
 have hi':∃z:Int,(inv:Int)*m=1+p*z:=by
  have e1:=Nat.div_add_mod (inv*(m%p)) p
  rw [hi] at e1
  have e2:=Nat.div_add_mod m p
  have e3:(p:Int)*((inv*(m%p)/p:Nat):Int)+1=(inv:Int)*((m%p:Nat):Int):=by exact_mod_cast e1
  have e4:(p:Int)*((m/p:Nat):Int)+((m%p:Nat):Int)=m:=by exact_mod_cast e2
  exact ⟨((inv*(m%p)/p:Nat):Int)+inv*((m/p:Nat):Int),by rw [←e4];grind⟩
 obtain ⟨z,hz⟩:=hi'
 obtain ⟨u,hu⟩:=hd'
 have h1:(p:Int) ∣ (((R+m*t:Nat):Int)-x):=by
  obtain ⟨v,hv⟩:(p:Int) ∣ (r:Int)-x:=by
   exact ⟨-(x/p),by rw [hr,Int.emod_def];grind⟩
  refine ⟨z*d-m*((inv*d/p:Nat):Int)+u+v,?_⟩
  push_cast
  rw [hq]
  grind
 have h2:(m:Int) ∣ (((R+m*t:Nat):Int)-x):=by
  obtain ⟨v,hv⟩:(m:Int) ∣ (R:Int)-x:=by
   exact ⟨-(x/m),by rw [hR,Int.emod_def];grind⟩
  refine ⟨t+v,?_⟩
  push_cast
  grind
 have hle:R+m*t<m*p:=by
  have:m*(t+1)≤m*p:=Nat.mul_le_mul_left _ htp
  rw [Nat.mul_add] at this
  omega
 refine emod_uniq (by omega) (by exact_mod_cast hle) ?_
 rw [←Int.natAbs_dvd_natAbs,Int.natAbs_natCast]
 exact Nat.Coprime.mul_dvd_of_dvd_of_dvd ((Nat.gcd_comm _ _).trans hc) (by simpa using Int.natAbs_dvd_natAbs.mpr h2) (by simpa using Int.natAbs_dvd_natAbs.mpr h1)
end Go.Proofs.YtjhfalgmgagdhaaGreatDoor.Zg
end

section
set_option maxRecDepth 100000
set_option linter.unusedVariables false
set_option linter.unusedSimpArgs false
namespace Go.Proofs.YtjhfalgmgagdhaaGreatDoor.Zg
def addz:List Int→List Int→List Int
 | [],b=>b
 | a,[]=>a
 | x::a,y::b=>(x+y)::addz a b
def pm:List Int→List Int→List Int
 | [],_=>[]
 | x::a,b=>addz (b.map (x*·)) (0::pm a b)
theorem addz_get:∀(a b:List Int) (i:Nat),(addz a b).getD i 0=a.getD i 0+b.getD i 0
 | [],b,i=>by simp [addz]
 | x::a,[],i=>by simp [addz]
 | x::a,y::b,0=>by simp [addz]
 | x::a,y::b,i+1=>by simpa [addz] using addz_get a b i
theorem addz_val (B:Int):∀(a b:List Int),pval B (addz a b)=pval B a+pval B b
 | [],b=>by simp [addz,pval]
 | x::a,[]=>by simp [addz,pval]
 | x::a,y::b=>by simp only [addz,pval,addz_val B a b];grind
theorem map_val (B c:Int):∀(b:List Int),pval B (b.map (c*·))=c*pval B b
 | []=>by simp [pval]
 | y::b=>by simp only [List.map_cons,pval,map_val B c b];grind
theorem pm_val (B:Int) (b:List Int):∀(a:List Int),pval B (pm a b)=pval B a*pval B b
 | []=>by simp [pm,pval]
 | x::a=>by simp only [pm,addz_val,map_val,pval,pm_val B b a];grind
theorem val_inj:∀(a b:List Int),(∀B:Int,0<B→pval B a=pval B b)→∀i,a.getD i 0=b.getD i 0:=by
 have hz:∀(b:List Int),(∀B:Int,0<B→pval B b=0)→∀i,b.getD i 0=0:=by
  intro b
  induction b with
  | nil=>intro _ i;simp
  | cons y b ih=>
   intro h
   have hy:y=0:=by
    have:=h (y.natAbs+1) (by omega)
    simp only [pval] at this
    have hd:((y.natAbs:Int)+1) ∣ y:=⟨-pval (y.natAbs+1) b,by grind⟩
    exact Int.eq_zero_of_dvd_of_natAbs_lt_natAbs hd (by omega)
   subst hy
   have hb:∀B:Int,0<B→pval B b=0:=fun B hB=>by
    have:=h B hB
    simp only [pval,Int.zero_add] at this
    rcases Int.mul_eq_zero.1 this with h|h
    ·omega
    ·exact h
   intro i
   cases i with
   | zero=>rfl
   | succ i=>simpa using ih hb i
 intro a b h i
 have:=hz (addz a (b.map ((-1)*·))) (fun B hB=>by rw [addz_val,map_val,h B hB];grind) i
 rw [addz_get] at this
 have e:(b.map ((-1:Int)*·)).getD i 0=-(b.getD i 0):=by
  simp only [List.getD_eq_getElem?_getD,List.getElem?_map]
  cases b[i]?<;>simp
 rw [e] at this
 omega
theorem Sg.shift (f:Nat→Int):∀n,Sg (n+1) f=f 0+Sg n fun k=>f (k+1)
 | 0=>by simp [Sg]
 | n+1=>by rw [Sg,Sg.shift f n,Sg];grind
theorem pm_get (b:List Int):∀(a:List Int) (i:Nat),(pm a b).getD i 0=Sg (i+1) fun u=>a.getD u 0*b.getD (i-u) 0
 | [],i=>by
  rw [Sg.congr (g:=fun _=>0) fun k _=>by simp,Sg.zero]
  simp [pm]
 | x::a,i=>by
  have hm:(b.map (x*·)).getD i 0=x*b.getD i 0:=by
   simp only [List.getD_eq_getElem?_getD,List.getElem?_map]
   cases b[i]?<;>simp
  rw [pm,addz_get,hm,Sg.shift]
  cases i with
  | zero=>simp [Sg]
  | succ i=>
   have:=pm_get b a i
   simp only [List.getD_cons_succ,List.getD_cons_zero,Nat.sub_zero,this]
   rw [Sg.congr (f:=fun k=>a.getD k 0*b.getD (i+1-(k+1)) 0) (g:=fun u=>a.getD u 0*b.getD (i-u) 0) fun k _=>by rw [Nat.add_sub_add_right]]
theorem pm_comm (a b:List Int) (i:Nat):(pm a b).getD i 0=(pm b a).getD i 0:=val_inj _ _ (fun B _=>by rw [pm_val,pm_val,Int.mul_comm]) i
theorem pm_assoc (a b c:List Int) (i:Nat):(pm (pm a b) c).getD i 0=(pm a (pm b c)).getD i 0:=val_inj _ _ (fun B _=>by rw [pm_val,pm_val,pm_val,pm_val,Int.mul_assoc]) i
theorem pm_le {A B:Nat} {b:List Int} (hb:∀i,(b.getD i 0).natAbs≤B):∀{a:List Int},(∀i,(a.getD i 0).natAbs≤A)→∀i,((pm a b).getD i 0).natAbs≤a.length*(A*B)
 | [],_,i=>by simp [pm]
 | x::a,ha,i=>by
  have hm:(b.map (x*·)).getD i 0=x*b.getD i 0:=by
   simp only [List.getD_eq_getElem?_getD,List.getElem?_map]
   cases b[i]?<;>simp
  have h1:(x*b.getD i 0).natAbs≤A*B:=by
   rw [Int.natAbs_mul];exact Nat.mul_le_mul (ha 0) (hb i)
  have h2:((0::pm a b).getD i 0).natAbs≤a.length*(A*B):=by
   cases i with
   | zero=>simp
   | succ i=>simpa using pm_le hb (fun j=>by simpa using ha (j+1)) i
  rw [pm,addz_get,hm,List.length_cons,Nat.add_mul,Nat.one_mul]
  generalize a.length*(A*B)=z at*
  generalize A*B=y at*
  omega
theorem addz_len:∀(a b:List Int),(addz a b).length=max a.length b.length
 | [],b=>by simp [addz]
 | x::a,[]=>by simp [addz]
 | x::a,y::b=>by simp [addz,addz_len a b]
theorem pm_len {b:List Int} (hb:b≠[]):∀{a:List Int},a≠[]→(pm a b).length=a.length+b.length-1
 | [x],_=>by
  have:=List.length_pos_iff.2 hb
  simp [pm,addz_len];omega
 | x::y::a,_=>by
  have:=List.length_pos_iff.2 hb
  rw [pm,addz_len,List.length_cons,pm_len hb (a:=y::a) (by simp)]
  simp;omega
theorem pm_mod {p:Int} {a b:List Int} {ra rb:List Nat} (ha:∀i,cg p (a.getD i 0) (ra.getD i 0:Nat)) (hb:∀i,cg p (b.getD i 0) (rb.getD i 0:Nat)) (i:Nat):cg p ((pm a b).getD i 0) (cv ra rb i:Nat):=by
 rw [pm_get]
 unfold cv
 rw [sgN_int]
 refine Sg.cg fun k _=>?_
 push_cast
 exact (ha k).mul (hb (i-k))
end Go.Proofs.YtjhfalgmgagdhaaGreatDoor.Zg
end

section
set_option maxRecDepth 100000
set_option linter.unusedVariables false
set_option linter.unusedSimpArgs false
namespace Go.Proofs.YtjhfalgmgagdhaaGreatDoor.Zg
theorem ptrim_get (l:List Int) (i:Nat):(ptrim l).getD i 0=l.getD i 0:=by
 obtain ⟨k,hk⟩:=ptrim_zeros l
 conv=>rhs;rw [hk]
 by_cases h:i<(ptrim l).length
 ·simp only [List.getD_eq_getElem?_getD]
  rw [List.getElem?_append_left h]
 ·simp only [List.getD_eq_getElem?_getD]
  rw [List.getElem?_append_right (by omega),List.getElem?_eq_none (by omega),List.getElem?_replicate]
  split<;>rfl
def Nm (l:List Int):Prop:=∀z,l.getLast?=some z→z≠0
theorem Nm.trim (l:List Int):Nm (ptrim l):=by
 intro z hz
 unfold ptrim at hz
 rw [List.getLast?_reverse] at hz
 intro h0
 subst h0
 have:=List.head?_dropWhile_not (fun x:Int=>x == 0) l.reverse
 rw [hz] at this
 simp at this
theorem Nm.get {l:List Int} (h:Nm l) (h0:l≠[]):l.getD (l.length-1) 0≠0:=by
 have hl:=List.length_pos_iff.2 h0
 refine h _ ?_
 rw [List.getLast?_eq_getElem?,List.getD_eq_getElem?_getD,List.getElem?_eq_getElem (by omega)]
 rfl
theorem Nm.ext {a b:List Int} (ha:Nm a) (hb:Nm b) (h:∀i,a.getD i 0=b.getD i 0):a=b:=by
 have key:∀{a b:List Int},Nm b→(∀i,a.getD i 0=b.getD i 0)→b.length≤a.length:=fun {a b} hb h=>by
  rcases Nat.lt_or_ge a.length b.length with hl|hl
  ·exfalso
   have h0:b≠[]:=fun h=>by simp [h] at hl
   refine hb.get h0 ?_
   rw [←h,List.getD_eq_getElem?_getD,List.getElem?_eq_none (by omega)]
   rfl
  ·exact hl
 have e:a.length=b.length:=Nat.le_antisymm (key ha fun i=>(h i).symm) (key hb h)
 refine List.ext_getElem e fun i h1 h2=>?_
 have:=h i
 simpa [List.getD_eq_getElem?_getD,List.getElem?_eq_getElem h1,List.getElem?_eq_getElem h2] using this
def pmt (a b:List Int):List Int:=ptrim (pm a b)
theorem pmt_get (a b:List Int) (i:Nat):(pmt a b).getD i 0=(pm a b).getD i 0:=ptrim_get _ _
theorem pmt_nm (a b:List Int):Nm (pmt a b):=Nm.trim _
theorem pmt_comm (a b:List Int):pmt a b=pmt b a:=(pmt_nm _ _).ext (pmt_nm _ _) fun i=>by rw [pmt_get,pmt_get,pm_comm]
theorem pm_congr {a a' b b':List Int} (ha:∀i,a.getD i 0=a'.getD i 0) (hb:∀i,b.getD i 0=b'.getD i 0) (i:Nat):(pm a b).getD i 0=(pm a' b').getD i 0:=by
 rw [pm_get,pm_get]
 exact Sg.congr fun k _=>by rw [ha,hb]
theorem pmt_assoc (a b c:List Int):pmt (pmt a b) c=pmt a (pmt b c):=(pmt_nm _ _).ext (pmt_nm _ _) fun i=>by
 rw [pmt_get,pmt_get,pm_congr (pmt_get a b) (fun _=>rfl),pm_assoc,pm_congr (fun _=>rfl) (fun j=>(pmt_get b c j).symm)]
theorem pmt_trim (a b:List Int):pmt (ptrim a) (ptrim b)=pmt a b:=(pmt_nm _ _).ext (pmt_nm _ _) fun i=>by
 rw [pmt_get,pmt_get,pm_congr (ptrim_get a) (ptrim_get b)]
theorem hgt_lt (l:List Int) (i:Nat):(l.getD i 0).natAbs≤2^hgt l-1:=by
 have h1:=bl_lt (l.getD i 0).natAbs
 have h2:=Nat.pow_le_pow_right (show 0<2 by omega) (hgt_le (l:=l) i)
 omega
theorem pm_bound (a b:List Int) (i:Nat):bl ((pm a b).getD i 0).natAbs≤hgt a+hgt b+bl (min a.length b.length):=by
 have key:∀a b:List Int,bl ((pm a b).getD i 0).natAbs≤hgt a+hgt b+bl a.length:=fun a b=>by
  refine bl_pow ?_
  refine Nat.lt_of_le_of_lt (pm_le (hgt_lt b) (hgt_lt a) i) ?_
  have h1:=bl_lt a.length
  have h2:=Nat.two_pow_pos (hgt a)
  have h3:=Nat.two_pow_pos (hgt b)
  calc a.length*((2^hgt a-1)*(2^hgt b-1))≤a.length*(2^hgt a*2^hgt b):=Nat.mul_le_mul_left _ (Nat.mul_le_mul (by omega) (by omega))
   _<2^bl a.length*(2^hgt a*2^hgt b):=Nat.mul_lt_mul_of_pos_right h1 (Nat.mul_pos h2 h3)
   _=2^(hgt a+hgt b+bl a.length):=by rw [Nat.pow_add,Nat.pow_add];grind
 rcases Nat.le_total a.length b.length with h|h
 ·rw [Nat.min_eq_left h];exact key a b
 ·rw [Nat.min_eq_right h,pm_comm,Nat.add_comm (hgt a)];exact key b a
end Go.Proofs.YtjhfalgmgagdhaaGreatDoor.Zg
end

section
set_option maxRecDepth 100000
set_option linter.unusedVariables false
set_option linter.unusedSimpArgs false
namespace Go.Proofs.YtjhfalgmgagdhaaGreatDoor.Zg
theorem sgd_back {x:Int} {R M:Nat} (h:2*x.natAbs<M) (hR:(R:Int)=x%(M:Int)):sgd R M=x:=by
 have hM:(0:Int)<M:=by omega
 have h1:=Int.emod_lt_of_pos x hM
 have hRM:R%M=R:=Nat.mod_eq_of_lt (by omega)
 unfold sgd
 rw [hRM]
 rcases (show x<0∨0≤x by omega) with hx|hx
 ·have e:x%(M:Int)=x+M:=by
   rw [←Int.add_emod_right,Int.emod_eq_of_lt (by omega) (by omega)]
  rw [e] at hR
  rw [if_pos (by omega)]
  omega
 ·rw [Int.emod_eq_of_lt hx (by omega)] at hR
  rw [if_neg (by omega)]
  omega
theorem kron_back {a b:List Int} {k:Nat} (hk:hgt a+hgt b+bl (min a.length b.length)+2≤k):Un (2^k) (pval ((2^k:Nat):Int) a*pval ((2^k:Nat):Int) b) (pmt a b):=by
 have hv:pval ((2^k:Nat):Int) (pmt a b)=pval ((2^k:Nat):Int) a*pval ((2^k:Nat):Int) b:=by
  rw [←pm_val]
  obtain ⟨j,hj⟩:=ptrim_zeros (pm a b)
  have hz:∀(B:Int) (l:List Int) (j:Nat),pval B (l++List.replicate j 0)=pval B l:=fun B l j=>by
   induction l with
   | nil=>
    induction j with
    | zero=>rfl
    | succ j ih=>
     rw [List.replicate_succ]
     simp only [List.nil_append] at ih ⊢
     simp only [pval,ih];simp [pval]
   | cons z l ih=>simp only [List.cons_append,pval,ih]
  conv=>rhs;rw [hj]
  rw [hz];rfl
 have h0:=(un_pval (Nat.two_pow_pos k) (l:=pmt a b) (fun z hz=>?_) (pmt_nm a b)).1
 ·rwa [hv] at h0
 ·obtain ⟨i,hi,rfl⟩:=List.getElem_of_mem hz
  have e:(pmt a b).getD i 0=(pmt a b)[i]:=by rw [List.getD_eq_getElem?_getD,List.getElem?_eq_getElem hi];rfl
  have hb:=bl_iff (pm_bound a b i)
  rw [←pmt_get,e] at hb
  have h2:2^(hgt a+hgt b+bl (min a.length b.length))*4≤2^k:=by
   rw [show (4:Nat)=2^2 from rfl,←Nat.pow_add]
   exact Nat.pow_le_pow_right (by decide) hk
  omega
end Go.Proofs.YtjhfalgmgagdhaaGreatDoor.Zg
end

section
set_option maxRecDepth 100000
set_option linter.unusedVariables false
set_option linter.unusedSimpArgs false
namespace Go.Proofs.YtjhfalgmgagdhaaGreatDoor.Zg
theorem pval_app (B:Int) (r:List Int):∀l:List Int,pval B (l++r)=pval B l+B^l.length*pval B r
 | []=>by simp [pval]
 | z::l=>by simp only [List.cons_append,pval,pval_app B r l,List.length_cons,Int.pow_succ];grind
def shz (h:Nat) (l:List Int):List Int:=List.replicate h 0++l
theorem shz_val (B:Int) (h:Nat) (l:List Int):pval B (shz h l)=B^h*pval B l:=by
 have:pval B (List.replicate h 0)=0:=by
  induction h with
  | zero=>rfl
  | succ h ih=>rw [List.replicate_succ,pval,ih];simp
 rw [shz,pval_app,this,List.length_replicate,Int.zero_add]
def ngz (l:List Int):List Int:=l.map ((-1)*·)
theorem ngz_val (B:Int) (l:List Int):pval B (ngz l)=-pval B l:=by rw [ngz,map_val];grind
theorem kara_z (a0 a1 b0 b1:List Int) {h:Nat} (h0:a0.length=h) (h1:b0.length=h) (i:Nat):
  (pm (a0++a1) (b0++b1)).getD i 0=(addz (pm a0 b0) (addz (shz h (addz (pm (addz a0 a1) (addz b0 b1)) (ngz (addz (pm a0 b0) (pm a1 b1))))) (shz (2*h) (pm a1 b1)))).getD i 0:=
 val_inj _ _ (fun B _=>by
  simp only [pm_val,pval_app,addz_val,shz_val,ngz_val,h0,h1,show 2*h=h+h by omega,Int.pow_add]
  grind) i
theorem kara_s (a0 a1 b:List Int) {h:Nat} (h0:a0.length=h) (i:Nat):(pm (a0++a1) b).getD i 0=(addz (pm a0 b) (shz h (pm a1 b))).getD i 0:=
 val_inj _ _ (fun B _=>by
  simp only [pm_val,pval_app,addz_val,shz_val,h0]
  grind) i
theorem pm_cg {p:Int} {a a' b b':List Int} (ha:∀i,cg p (a.getD i 0) (a'.getD i 0)) (hb:∀i,cg p (b.getD i 0) (b'.getD i 0)) (i:Nat):cg p ((pm a b).getD i 0) ((pm a' b').getD i 0):=by
 rw [pm_get,pm_get]
 exact Sg.cg fun k _=>(ha k).mul (hb (i-k))
def izl (l:List Nat):List Int:=l.map Int.ofNat
theorem izl_get (l:List Nat) (i:Nat):(izl l).getD i 0=((l.getD i 0:Nat):Int):=by
 simp only [izl,List.getD_eq_getElem?_getD,List.getElem?_map]
 cases l[i]?<;>simp
theorem izl_cv (la lb:List Nat) (i:Nat):(pm (izl la) (izl lb)).getD i 0=((cv la lb i:Nat):Int):=by
 rw [pm_get]
 unfold cv
 rw [sgN_int]
 refine Sg.congr fun k _=>?_
 rw [izl_get,izl_get]
 push_cast
 rfl
theorem izl_app (a b:List Nat):izl (a++b)=izl a++izl b:=List.map_append
theorem izl_len (a:List Nat):(izl a).length=a.length:=List.length_map _
theorem shz_get (h:Nat) (l:List Int) (i:Nat):(shz h l).getD i 0=if i<h then 0 else l.getD (i-h) 0:=by
 unfold shz
 simp only [List.getD_eq_getElem?_getD]
 split
 ·rename_i hi
  rw [List.getElem?_append_left (by simpa using hi),List.getElem?_replicate,if_pos hi]
  rfl
 ·rename_i hi
  rw [List.getElem?_append_right (by simp;omega),List.length_replicate]
theorem ngz_get (l:List Int) (i:Nat):(ngz l).getD i 0=-(l.getD i 0):=by
 simp only [ngz,List.getD_eq_getElem?_getD,List.getElem?_map]
 cases l[i]?<;>simp
end Go.Proofs.YtjhfalgmgagdhaaGreatDoor.Zg
end
