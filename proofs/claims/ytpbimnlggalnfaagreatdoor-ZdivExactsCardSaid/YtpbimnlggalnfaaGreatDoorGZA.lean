/- A part of the proofs of this seat's laws. -/
import Derived.Test.YtpbimnlggalnfaaGreatDoorGNA
set_option linter.unusedVariables false
set_option linter.unusedSimpArgs false
set_option linter.unnecessarySimpa false
namespace Go.Proofs.YtpbimnlggalnfaaGreatDoor.Zg
open Go.RowKit
section
variable {a b l:List Int} {m n:Nat} {x y:Int}
def Sc(c:Int)(a:List Int):List Int:=ae (a.map (·*c))
def Ad(a b:List Int):List Int:=ae (fg a b)
def Sb(a b:List Int):List Int:=ae (fg a (ngz b))
theorem ki{f:Int→Int}(hf:f 0=0)(a:List Int)(i:Nat):(a.map f).getD i 0=f (a.getD i 0):=by
 simp only [List.getD_eq_getElem?_getD,List.getElem?_map];cases a[i]?<;>simp [hf]
theorem nz(c:Int)(a:List Int)(i:Nat):(Sc c a).getD i 0=a.getD i 0*c:=by
 rw [Sc,bQ,ki smp]
theorem ln(a b:List Int)(i:Nat):(Ad a b).getD i 0=a.getD i 0+b.getD i 0:=by rw [Ad,bQ,eK]
theorem mH(a b:List Int)(i:Nat):(Sb a b).getD i 0=a.getD i 0-b.getD i 0:=by rw [Sb,bQ,eK,pr];omega
theorem gtb{i:Nat}(h:l.length≤i):l.getD i 0=0:=by
 rw [List.getD_eq_getElem?_getD,List.getElem?_eq_none h];rfl
theorem Nm.len_le(h:Nm a)(hz:∀i,n≤i→a.getD i 0=0):a.length≤n:=by
 rcases Nat.lt_or_ge n a.length with h1|h1
 ·exfalso;exact h.get (λe=>by rw [e] at h1;simp at h1) (hz _ om)
 ·exact h1
theorem gn:∀{l:List Int},(∀i,bl (l.getD i 0).natAbs≤n)→hgt l≤n:=by
 have key:∀(l:List Int) (m:Nat),m≤n→(∀i,bl (l.getD i 0).natAbs≤n)→(l.map λz=>bl z.natAbs).foldl max m≤n:=by
  intro l;induction l with
  | nil=>intro m hm _;exact hm
  | cons z l ih=>
   intro m hm h;rw [List.map_cons,List.foldl_cons];have h0:=h 0;simp only [List.getD_cons_zero] at h0;exact ih _ om λi=>by simpa using h (i+1)
 intro l h;exact key l 0 om h
theorem l4(hx:bl x.natAbs≤m)(hy:bl y.natAbs≤n):bl (x*y).natAbs≤m+n:=by
 rw [Int.natAbs_mul];refine bi ?_;rw [Nat.pow_add];exact Nat.mul_lt_mul'' (Nat.lt_of_lt_of_le (fj _) (Nat.pow_le_pow_right dcd hx)) (Nat.lt_of_lt_of_le (fj _) (Nat.pow_le_pow_right dcd hy))
theorem vL(hx:bl x.natAbs≤n)(hy:bl y.natAbs≤n):bl (x+y).natAbs≤n+1:=by
 have h1:=Nat.lt_of_lt_of_le (fj x.natAbs) (Nat.pow_le_pow_right dcd hx);have h2:=Nat.lt_of_lt_of_le (fj y.natAbs) (Nat.pow_le_pow_right dcd hy);refine bi ?_;rw [Nat.pow_succ];omega
theorem ry(hx:bl x.natAbs≤n)(hy:bl y.natAbs≤n):bl (x-y).natAbs≤n+1:=by
 rw [Int.sub_eq_add_neg];exact vL hx (by rw [Int.natAbs_neg];exact hy)
theorem fI(h:hgt l≤n)(i:Nat):bl (l.getD i 0).natAbs≤n:=Nat.le_trans (nj i) h
theorem tX{c:Int}(ha:hgt a≤m)(hc:bl c.natAbs≤n):hgt (Sc c a)≤m+n:=gn λi=>by rw [nz];exact l4 (fI ha i) hc
theorem abY(ha:hgt a≤n)(hb:hgt b≤n):hgt (Sb a b)≤n+1:=gn λi=>by rw [mH];exact ry (fI ha i) (fI hb i)
theorem rh{h:Nat}(ha:hgt a≤n):hgt (shz h a)≤n:=gn λi=>by
 rw [iV];split
 ·simp [fJ]
 ·exact fI ha _
theorem aaq{f:Nat→Int}{d:Nat}(h:∀u,u≠d→f u=0):∀{n:Nat},d<n→Sg n f=f d
 | n+1,hd=>by
  rw [Sg];rcases Nat.lt_or_ge d n with h1|h1
  ·rw [aaq h h1,h n om,Int.add_zero]
  ·have:d=n:=om;subst this
   have:∀m,m≤d→Sg m f=0:=λm hm=>by
    rw [Sg.congr (g:=λ_=>0) λu hu=>h u om,Sg.zero]
   rw [this d (Nat.le_refl _),Int.zero_add]
theorem tC{d e:Nat}(ha:∀i,d<i→a.getD i 0=0)(hb:∀i,e<i→b.getD i 0=0):(pm a b).getD (d+e) 0=a.getD d 0*b.getD e 0:=by
 rw [jM,aaq (d:=d) (λu hu=>?_) om,show d+e-d=e by omega];rcases Nat.lt_or_ge d u with h|h
 ·rw [ha u h,Int.zero_mul]
 ·rw [hb (d+e-u) om,Int.mul_zero]
theorem aaP(a a' b:List Int)(i:Nat):(pm (fg a a') b).getD i 0=(pm a b).getD i 0+(pm a' b).getD i 0:=by
 have:=kP (pm (fg a a') b) (fg (pm a b) (pm a' b)) (λB _=>by rw [iZ,kr,kr,iZ,iZ];grind) i;rw [this,eK]
theorem abC(a b:List Int)(i:Nat):(pm (ngz a) b).getD i 0=-(pm a b).getD i 0:=by
 have:=kP (pm (ngz a) b) (ngz (pm a b)) (λB _=>by rw [iZ,qW,qW,iZ];grind) i;rw [this,pr]
theorem xD(h:Nat)(a b:List Int)(i:Nat):(pm (shz h a) b).getD i 0=(shz h (pm a b)).getD i 0:=
 kP _ _ (λB _=>by rw [iZ,pf,pf,iZ];grind) i
end
section
variable {a:List Int}
def ctn(a:List Int):Nat:=a.foldl (λg z=>Nat.gcd g z.natAbs) 0
theorem vK:∀(a:List Int) (g:Nat),(a.foldl (λg z=>Nat.gcd g z.natAbs) g) ∣ g∧∀z∈a,(a.foldl (λg z=>Nat.gcd g z.natAbs) g) ∣ z.natAbs
 | [],g=>⟨Nat.dvd_refl _,λz h=>by simp at h⟩
 | z::a,g=>by
  obtain⟨h1,h2⟩:=vK a (Nat.gcd g z.natAbs);rw [List.foldl_cons];refine⟨Nat.dvd_trans h1 (Nat.gcd_dvd_left _ _),λy hy=>?_⟩;rcases List.mem_cons.1 hy with rfl|hy
  ·exact Nat.dvd_trans h1 (Nat.gcd_dvd_right _ _)
  ·exact h2 y hy
theorem zw{i:Nat}(h:i<a.length):a.getD i 0∈a:=by
 rw [List.getD_eq_getElem?_getD,List.getElem?_eq_getElem h];exact List.getElem_mem h
theorem vJ(a:List Int)(i:Nat):ctn a ∣ (a.getD i 0).natAbs:=by
 by_cases h:i<a.length
 ·exact (vK a 0).2 _ (zw h)
 ·rw [gtb om];simp
theorem abd(h:Nm a)(h0:a≠[]):0<ctn a:=by
 rcases Nat.eq_zero_or_pos (ctn a) with h1|h1
 ·exfalso;have:=vJ a (a.length-1);rw [h1,Nat.zero_dvd] at this;exact h.get h0 om
 ·exact h1
def ldz(a:List Int):Int:=a.getD (a.length-1) 0
def cpz(a:List Int):Int:=if ldz a<0 then -(ctn a:Int) else ctn a
def ppz(a:List Int):List Int:=a.map λx=>x/cpz a
theorem pv(a:List Int):(cpz a).natAbs=ctn a:=by unfold cpz;split<;>omega
theorem abe(a:List Int)(i:Nat):cpz a ∣ a.getD i 0:=by
 rw [←Int.natAbs_dvd_natAbs,pv];exact vJ a i
theorem act{l:List Int}(h:l≠[]→l.getD (l.length-1) 0≠0):Nm l:=λz hz=>by
 have h0:l≠[]:=λe=>by rw [e] at hz;simp at hz
 have:=h h0;rw [List.getLast?_eq_getElem?] at hz;rw [List.getD_eq_getElem?_getD,hz] at this;exact this
end
def xg(xs:List Int)(i:Nat):Int:=xs.getD i 0
def ii(xs:List Int)(i:Nat):Nat→List Int
 | 0=>[1]
 | m+1=>if m=i then ii xs i m else pmt (ii xs i m) [-(xg xs m),1]
def dnz(xs:List Int)(i:Nat):Nat→Int
 | 0=>1
 | m+1=>if m=i then dnz xs i m else dnz xs i m*(xg xs i-xg xs m)
theorem ye{xs:List Int}{i:Nat}:∀{m:Nat},(∀k,k<m→k≠i→xg xs i≠xg xs k)→dnz xs i m≠0
 | 0,_=>by simp [dnz]
 | m+1,h=>by
  have ih:=ye (m:=m) λk hk=>h k om
  unfold dnz;split
  ·exact ih
  ·rename_i hm;refine Int.mul_ne_zero ih ?_;have:=h m om hm;omega
def ips(xs:List Int)(c:Nat→Int)(n j:Nat):Nat→Int
 | 0=>0
 | m+1=>ips xs c n j m+(ii xs m n).getD j 0*c m
theorem yO(a:List Int)(x y:Int):(pmt a [x,y]).length≤a.length+1:=by
 refine Nat.le_trans (ap _) ?_;by_cases ha:a=[]
 ·subst ha;simp [pm]
 ·rw [tE smp ha];simp
theorem qP{xs:List Int}{i H:Nat}(hx:∀k,bl (xg xs k).natAbs≤H):∀m,(ii xs i m).length≤1+m∧hgt (ii xs i m)≤1+m*(H+3)
 | 0=>by
  refine⟨by simp [ii],gn λj=>?_⟩;show bl (([1]:List Int).getD j 0).natAbs≤_;match j with
  | 0=>exact Nat.le_trans (bi (k:=1) dcd) om
  | j+1=>simp [fJ]
 | m+1=>by
  obtain⟨h1,h2⟩:=qP (i:=i) hx m;unfold ii;rw [Nat.add_mul,Nat.one_mul];split
  ·exact⟨om,om⟩
  ·refine⟨Nat.le_trans (yO _ _ _) om,gn λj=>?_⟩;rw [jI];refine Nat.le_trans (nW _ _ j) ?_
   have h3:hgt [-(xg xs m),1]≤H+1:=gn λj=>by
    match j with
    | 0=>simp only [List.getD_cons_zero,Int.natAbs_neg];have:=hx m;omega
    | 1=>exact Nat.le_trans (bi (k:=1) smp) om
    | j+2=>simp [fJ]
   have h4:bl (min (ii xs i m).length [-(xg xs m),1].length)≤2:=bi (by simp;omega);omega
theorem yd{xs:List Int}{i H:Nat}(hx:∀k,bl (xg xs k).natAbs≤H):∀m,bl (dnz xs i m).natAbs≤1+m*(H+1)
 | 0=>by simp only [dnz];exact Nat.le_trans (bi (k:=1) dcd) om
 | m+1=>by
  have ih:=yd (i:=i) hx m;unfold dnz;rw [Nat.add_mul,Nat.one_mul];split
  ·omega
  ·exact Nat.le_trans (l4 ih (ry (hx i) (hx m))) om
section
variable {c x:Int}
theorem rG(x c:Int):(if (!(decide (x<0) == decide (c<0)))=true then -((x.natAbs/c.natAbs:Nat):Int) else ((x.natAbs/c.natAbs:Nat):Int))=x.tdiv c:=by
 rcases Int.lt_or_le x 0 with hx|hx<;>rcases Int.lt_or_le c 0 with hc|hc
 ·obtain⟨X,hX⟩:∃X:Nat,x=-(X:Int):=⟨x.natAbs,om⟩;obtain⟨C,hC⟩:∃C:Nat,c=-(C:Int):=⟨c.natAbs,om⟩;rw [decide_eq_true hx,decide_eq_true hc];subst hX;subst hC;simp [Int.neg_tdiv,Int.tdiv_neg]
 ·obtain⟨X,hX⟩:∃X:Nat,x=-(X:Int):=⟨x.natAbs,om⟩;obtain⟨C,hC⟩:∃C:Nat,c=(C:Int):=⟨c.natAbs,om⟩;rw [decide_eq_true hx,decide_eq_false om];subst hX;subst hC;simp [Int.neg_tdiv,Int.tdiv_neg]
 ·obtain⟨X,hX⟩:∃X:Nat,x=(X:Int):=⟨x.natAbs,om⟩;obtain⟨C,hC⟩:∃C:Nat,c=-(C:Int):=⟨c.natAbs,om⟩;rw [decide_eq_false (show ¬x<0 by omega),decide_eq_true hc];subst hX;subst hC;simp [Int.neg_tdiv,Int.tdiv_neg]
 ·obtain⟨X,hX⟩:∃X:Nat,x=(X:Int):=⟨x.natAbs,om⟩;obtain⟨C,hC⟩:∃C:Nat,c=(C:Int):=⟨c.natAbs,om⟩;rw [decide_eq_false (show ¬x<0 by omega),decide_eq_false (show ¬c<0 by omega)];subst hX;subst hC;simp
theorem wX(x c:Int):(if decide (x<0)=true then -((x.natAbs%c.natAbs:Nat):Int) else ((x.natAbs%c.natAbs:Nat):Int))=x.tmod c:=by
 have hcc:x.tmod c=x.tmod (c.natAbs:Int):=by
  rcases Int.lt_or_le c 0 with hc|hc
  ·rw [show (c.natAbs:Int)=-c by omega,Int.tmod_neg]
  ·rw [show (c.natAbs:Int)=c by omega]
 rw [hcc];rcases Int.lt_or_le x 0 with hx|hx
 ·obtain⟨X,hX⟩:∃X:Nat,x=-(X:Int):=⟨x.natAbs,om⟩;rw [decide_eq_true hx];subst hX;simp [Int.neg_tmod];exact (Int.tmod_eq_emod_of_nonneg om).symm
 ·obtain⟨X,hX⟩:∃X:Nat,x=(X:Int):=⟨x.natAbs,om⟩;rw [decide_eq_false (show ¬x<0 by omega)];subst hX;simp;exact (Int.tmod_eq_emod_of_nonneg om).symm
theorem zG:c.natAbs ∣ x.natAbs↔c ∣ x:=Int.natAbs_dvd_natAbs
theorem rI(h:c ∣ x):x.tdiv c=x/c:=by
 obtain⟨q,rfl⟩:=h;by_cases hc:c=0
 ·subst hc;simp
 ·rw [Int.mul_tdiv_cancel_left _ hc,Int.mul_ediv_cancel_left _ hc]
theorem rF:x.tmod c=0↔c ∣ x:=⟨Int.dvd_of_tmod_eq_zero,Int.tmod_eq_zero_of_dvd⟩
end
end Go.Proofs.YtpbimnlggalnfaaGreatDoor.Zg
