/- A part of the proofs of this seat's laws. -/
import Derived.Test.YtpbimnlggalnfaaGreatDoorGNA
set_option linter.unusedVariables false
set_option linter.unusedSimpArgs false
set_option linter.unnecessarySimpa false
namespace Go.Proofs.YtpbimnlggalnfaaGreatDoor.Zg
open Go.RowKit
section
variable {a b l q q' r r':List Int} {h k m n:Nat} {c x y:Int}
def Sc(c:Int)(a:List Int):List Int:=ae (a.map (·*c))
def Ad(a b:List Int):List Int:=ae (et a b)
def Sb(a b:List Int):List Int:=ae (et a (ngz b))
theorem i5{f:Int→Int}(hf:f 0=0)(a:List Int)(i:Nat):(a.map f).getD i 0=f (a.getD i 0):=by
 simp only [List.getD_eq_getElem?_getD,List.getElem?_map];cases a[i]?<;>simp [hf]
theorem jL(c:Int)(a:List Int)(i:Nat):(Sc c a).getD i 0=a.getD i 0*c:=by
 rw [Sc,co,i5 smp]
theorem pb(a b:List Int)(i:Nat):(Ad a b).getD i 0=a.getD i 0+b.getD i 0:=by rw [Ad,co,dh]
theorem lf(a b:List Int)(i:Nat):(Sb a b).getD i 0=a.getD i 0-b.getD i 0:=by rw [Sb,co,dh,mU];omega
theorem gtb{i:Nat}(h:l.length≤i):l.getD i 0=0:=by
 rw [List.getD_eq_getElem?_getD,List.getElem?_eq_none h];rfl
theorem Nm.len_le(h:Nm a)(hz:∀i,n≤i→a.getD i 0=0):a.length≤n:=by
 rcases Nat.lt_or_ge n a.length with h1|h1
 ·exfalso;exact h.get (λe=>by rw [e] at h1;simp at h1) (hz _ om)
 ·exact h1
theorem fz:∀{l:List Int},(∀i,bl (l.getD i 0).natAbs≤n)→hgt l≤n:=by
 have key:∀(l:List Int) (m:Nat),m≤n→(∀i,bl (l.getD i 0).natAbs≤n)→(l.map λz=>bl z.natAbs).foldl max m≤n:=by
  intro l;induction l with
  | nil=>intro m hm _;exact hm
  | cons z l ih=>
   intro m hm h;rw [List.map_cons,List.foldl_cons];have h0:=h 0;simp only [List.getD_cons_zero] at h0;exact ih _ om λi=>by simpa using h (i+1)
 intro l h;exact key l 0 om h
theorem ku(hx:bl x.natAbs≤m)(hy:bl y.natAbs≤n):bl (x*y).natAbs≤m+n:=by
 rw [Int.natAbs_mul];refine bh ?_;rw [Nat.pow_add];exact Nat.mul_lt_mul'' (Nat.lt_of_lt_of_le (fE _) (Nat.pow_le_pow_right dcd hx)) (Nat.lt_of_lt_of_le (fE _) (Nat.pow_le_pow_right dcd hy))
theorem pB(hx:bl x.natAbs≤n)(hy:bl y.natAbs≤n):bl (x+y).natAbs≤n+1:=by
 have h1:=Nat.lt_of_lt_of_le (fE x.natAbs) (Nat.pow_le_pow_right dcd hx);have h2:=Nat.lt_of_lt_of_le (fE y.natAbs) (Nat.pow_le_pow_right dcd hy);refine bh ?_;rw [Nat.pow_succ];omega
theorem pA(hx:bl x.natAbs≤n)(hy:bl y.natAbs≤n):bl (x-y).natAbs≤n+1:=by
 rw [Int.sub_eq_add_neg];exact pB hx (by rw [Int.natAbs_neg];exact hy)
theorem bM(h:hgt l≤n)(i:Nat):bl (l.getD i 0).natAbs≤n:=Nat.le_trans (mY i) h
theorem jH(ha:hgt a≤m)(hc:bl c.natAbs≤n):hgt (Sc c a)≤m+n:=fz λi=>by rw [jL];exact ku (bM ha i) hc
theorem xK(ha:hgt a≤n)(hb:hgt b≤n):hgt (Ad a b)≤n+1:=fz λi=>by rw [pb];exact pB (bM ha i) (bM hb i)
theorem abF(ha:hgt a≤n)(hb:hgt b≤n):hgt (Sb a b)≤n+1:=fz λi=>by rw [lf];exact pA (bM ha i) (bM hb i)
theorem pv(ha:hgt a≤n):hgt (shz h a)≤n:=fz λi=>by
 rw [iM];split
 ·simp [fb]
 ·exact bM ha _
theorem aag{f:Nat→Int}{d:Nat}(h:∀u,u≠d→f u=0):∀{n:Nat},d<n→Sg n f=f d
 | n+1,hd=>by
  rw [Sg];rcases Nat.lt_or_ge d n with h1|h1
  ·rw [aag h h1,h n om,Int.add_zero]
  ·have:d=n:=om;subst this
   have:∀m,m≤d→Sg m f=0:=λm hm=>by
    rw [Sg.congr (g:=λ_=>0) λu hu=>h u om,Sg.zero]
   rw [this d (Nat.le_refl _),Int.zero_add]
theorem abj{d e:Nat}(ha:∀i,d<i→a.getD i 0=0)(hb:∀i,e<i→b.getD i 0=0):(pm a b).getD (d+e) 0=a.getD d 0*b.getD e 0:=by
 rw [jX,aag (d:=d) (λu hu=>?_) om,show d+e-d=e by omega];rcases Nat.lt_or_ge d u with h|h
 ·rw [ha u h,Int.zero_mul]
 ·rw [hb (d+e-u) om,Int.mul_zero]
structure PD (k:Nat) (a b q r:List Int):Prop where
 eq:∀i,(b.getD (b.length-1) 0)^k*a.getD i 0=(pm q b).getD i 0+r.getD i 0
 lt:∀i,b.length-1≤i→r.getD i 0=0
 nq:Nm q
 nr:Nm r
theorem vf(a a' b:List Int)(i:Nat):(pm (et a a') b).getD i 0=(pm a b).getD i 0+(pm a' b).getD i 0:=by
 have:=kM (pm (et a a') b) (et (pm a b) (pm a' b)) (λB _=>by rw [iF,ki,ki,iF,iF];grind) i;rw [this,dh]
theorem abk(a b:List Int)(i:Nat):(pm (ngz a) b).getD i 0=-(pm a b).getD i 0:=by
 have:=kM (pm (ngz a) b) (ngz (pm a b)) (λB _=>by rw [iF,qV,qV,iF];grind) i;rw [this,mU]
theorem xl(c:Int)(a b:List Int)(i:Nat):(pm (a.map (c*·)) b).getD i 0=c*(pm a b).getD i 0:=by
 have:=kM (pm (a.map (c*·)) b) ((pm a b).map (c*·)) (λB _=>by rw [iF,lH,lH,iF];grind) i;rw [this,i5 smp]
theorem xk(h:Nat)(a b:List Int)(i:Nat):(pm (shz h a) b).getD i 0=(shz h (pm a b)).getD i 0:=
 kM _ _ (λB _=>by rw [iF,pe,pe,iF];grind) i
theorem PD.uniq(hb:Nm b)(h0:b≠[])(h:PD k a b q r)(h':PD k a b q' r'):q=q'∧r=r':=by
 have hl:b.getD (b.length-1) 0≠0:=hb.get h0;have hlb:∀i,b.length-1<i→b.getD i 0=0:=λi hi=>gtb om
 obtain⟨D,hD⟩:∃D,ae (et q (ngz q'))=D:=⟨_,rfl⟩;have hDg:∀i,D.getD i 0=q.getD i 0-q'.getD i 0:=λi=>by rw [←hD,co,dh,mU];omega
 have hDp:∀i,(pm D b).getD i 0=r'.getD i 0-r.getD i 0:=λi=>by
  have e1:=h.eq i;have e2:=h'.eq i;have e3:=kP (a:=D) (a':=et q (ngz q')) (b:=b) (b':=b) (λi=>by rw [←hD,co]) (λi=>rfl) i;rw [e3,vf,abk];omega
 have hDn:Nm D:=hD▸Nm.trim _
 have hDe:D=[]:=by
  rcases Nat.eq_zero_or_pos D.length with h1|h1
  ·exact List.length_eq_zero_iff.1 h1
  ·exfalso;have hne:D≠[]:=λe=>by rw [e] at h1;simp at h1
   have ht:=abj (a:=D) (b:=b) (d:=D.length-1) (e:=b.length-1) (λi hi=>gtb om) hlb;rw [hDp,h.lt _ om,h'.lt _ om] at ht;rcases Int.mul_eq_zero.1 (show D.getD (D.length-1) 0*b.getD (b.length-1) 0=0 by rw [←ht];simp) with h2|h2
   ·exact hDn.get hne h2
   ·exact hl h2
 have hz:∀i,D.getD i 0=0:=λi=>by rw [hDe];simp
 refine⟨h.nq.ext h'.nq λi=>?_,h.nr.ext h'.nr λi=>?_⟩
 ·have:=hDg i;rw [hz] at this;omega
 ·have:=hDp i;rw [hDe] at this;simp [pm] at this;simp only [List.getD_eq_getElem?_getD];omega
def prz(a b:List Int):Nat→List Int × List Int
 | 0=>([],a)
 | i+1=>(Ad (Sc (b.getD (b.length-1) 0) (prz a b i).1) (shz (a.length-i-b.length) (ae [(prz a b i).2.getD (a.length-1-i) 0])),
   Sb (Sc (b.getD (b.length-1) 0) (prz a b i).2) (shz (a.length-i-b.length) (Sc ((prz a b i).2.getD (a.length-1-i) 0) b)))
theorem oK(t:Int)(i:Nat):(ae [t]).getD i 0=if i=0 then t else 0:=by
 rw [co];cases i<;>simp
theorem vg{t:Int}(hb:b≠[])(hc:c=b.getD (b.length-1) 0)(hn:n=h+(b.length-1))(ht:t=r.getD n 0)(he:∀i,c^k*a.getD i 0=(pm q b).getD i 0+r.getD i 0)(hz:∀i,n<i→r.getD i 0=0)(hq:∀i,q'.getD i 0=q.getD i 0*c+if i=h then t else 0)(hr:∀i,r'.getD i 0=r.getD i 0*c-if i<h then 0 else b.getD (i-h) 0*t):
  (∀i,c^(k+1)*a.getD i 0=(pm q' b).getD i 0+r'.getD i 0)∧∀i,n≤i→r'.getD i 0=0:=by
 have hq':∀i,q'.getD i 0=(et (q.map (c*·)) (shz h [t])).getD i 0:=λi=>by
  rw [hq,dh,i5 smp,iM,Int.mul_comm];congr 1;by_cases h1:i=h
  ·rw [if_pos h1,if_neg om,h1,Nat.sub_self];rfl
  ·rw [if_neg h1];by_cases h2:i<h
   ·rw [if_pos h2]
   ·rw [if_neg h2,gtb (by simp;omega)]
 constructor
 ·intro i;rw [kP hq' (λi=>rfl),vf,xl,xk,iM,hr,Int.pow_succ];have e1:=he i
  have e2:(if i<h then 0 else (pm [t] b).getD (i-h) 0)=if i<h then 0 else b.getD (i-h) 0*t:=by
   split
   ·rfl
   ·rw [pm,dh,i5 smp,pm];have:(([0]:List Int)).getD (i-h) 0=0:=by cases (i-h)<;>simp
    rw [this];grind
  rw [e2];have e3:c^k*c*a.getD i 0=c*(c^k*a.getD i 0):=by grind
  rw [e3,e1];grind
 ·intro i hi;rw [hr];have hbl:0<b.length:=List.length_pos_iff.2 hb;rcases Nat.lt_or_ge n i with h1|h1
  ·rw [hz i h1,if_neg om,gtb (l:=b) om];simp
  ·have:i=n:=om;subst this;rw [if_neg om,show i-h=b.length-1 by omega,←ht,←hc];grind
theorem tm{a b:List Int}(hb:b≠[]):∀i,i≤a.length+1-b.length→(∀j,(b.getD (b.length-1) 0)^i*a.getD j 0=(pm (prz a b i).1 b).getD j 0+(prz a b i).2.getD j 0)∧∀j,a.length-i≤j→(prz a b i).2.getD j 0=0
 | 0,_=>⟨λj=>by simp [prz,pm],λj hj=>gtb (by simpa [prz] using hj)⟩
 | i+1,hi=>by
  obtain⟨h1,h2⟩:=tm (a:=a) hb i om;have hbl:0<b.length:=List.length_pos_iff.2 hb;have hn:a.length-1-i=a.length-i-b.length+(b.length-1):=om;have hst:=vg (a:=a) (b:=b) (q:=(prz a b i).1) (r:=(prz a b i).2) (n:=a.length-1-i) (h:=a.length-i-b.length) hb rfl hn rfl h1 (λj hj=>h2 j om) (q':=(prz a b (i+1)).1) (r':=(prz a b (i+1)).2) (λj=>?_) (λj=>?_)
  ·exact⟨hst.1,λj hj=>hst.2 j om⟩
  ·rw [prz,pb,jL,iM,oK];congr 1;by_cases h3:j=a.length-i-b.length
   ·rw [if_pos h3,if_neg om,if_pos om]
   ·rw [if_neg h3];split
    ·rfl
    ·rw [if_neg om]
  ·rw [prz,lf,jL,iM,jL]
theorem tq(ha:Nm a):∀i,Nm (prz a b i).1∧Nm (prz a b i).2
 | 0=>⟨λz h=>by simp [prz] at h,ha⟩
 | i+1=>⟨Nm.trim _,Nm.trim _⟩
theorem tn(ha:Nm a)(hb:b≠[]):PD (a.length+1-b.length) a b (prz a b (a.length+1-b.length)).1 (prz a b (a.length+1-b.length)).2:=by
 obtain⟨h1,h2⟩:=tm (a:=a) hb (a.length+1-b.length) (Nat.le_refl _);have hbl:0<b.length:=List.length_pos_iff.2 hb;refine⟨h1,λi hi=>h2 i om,(tq ha _).1,(tq ha _).2⟩
theorem pj{a b:List Int}{A B:Nat}(ha:hgt a≤A)(hb:hgt b≤B):∀i,hgt (prz a b i).1≤A+i*(B+1)∧hgt (prz a b i).2≤A+i*(B+1)
 | 0=>⟨by simp [prz,hgt],by simpa [prz] using ha⟩
 | i+1=>by
  obtain⟨h1,h2⟩:=pj ha hb i;have hc:=bM hb (b.length-1);rw [Nat.add_mul,Nat.one_mul];constructor
  ·refine Nat.le_trans (xK (n:=A+i*(B+1)+B) (Nat.le_trans (jH h1 hc) (Nat.le_refl _)) (pv (fz λj=>?_))) om;rw [oK];split
   ·exact Nat.le_trans (bM h2 _) om
   ·simp [fb]
  ·refine Nat.le_trans (abF (n:=A+i*(B+1)+B) (Nat.le_trans (jH h2 hc) (Nat.le_refl _)) (pv ?_)) om;exact Nat.le_trans (jH hb (bM h2 _)) om
end
section
variable {a:List Int}
def ctn(a:List Int):Nat:=a.foldl (λg z=>Nat.gcd g z.natAbs) 0
theorem vy:∀(a:List Int) (g:Nat),(a.foldl (λg z=>Nat.gcd g z.natAbs) g) ∣ g∧∀z∈a,(a.foldl (λg z=>Nat.gcd g z.natAbs) g) ∣ z.natAbs
 | [],g=>⟨Nat.dvd_refl _,λz h=>by simp at h⟩
 | z::a,g=>by
  obtain⟨h1,h2⟩:=vy a (Nat.gcd g z.natAbs);rw [List.foldl_cons];refine⟨Nat.dvd_trans h1 (Nat.gcd_dvd_left _ _),λy hy=>?_⟩;rcases List.mem_cons.1 hy with rfl|hy
  ·exact Nat.dvd_trans h1 (Nat.gcd_dvd_right _ _)
  ·exact h2 y hy
theorem zb{i:Nat}(h:i<a.length):a.getD i 0∈a:=by
 rw [List.getD_eq_getElem?_getD,List.getElem?_eq_getElem h];exact List.getElem_mem h
theorem vx(a:List Int)(i:Nat):ctn a ∣ (a.getD i 0).natAbs:=by
 by_cases h:i<a.length
 ·exact (vy a 0).2 _ (zb h)
 ·rw [gtb om];simp
theorem aaY(h:Nm a)(h0:a≠[]):0<ctn a:=by
 rcases Nat.eq_zero_or_pos (ctn a) with h1|h1
 ·exfalso;have:=vx a (a.length-1);rw [h1,Nat.zero_dvd] at this;exact h.get h0 om
 ·exact h1
def ldz(a:List Int):Int:=a.getD (a.length-1) 0
def cpz(a:List Int):Int:=if ldz a<0 then -(ctn a:Int) else ctn a
def ppz(a:List Int):List Int:=a.map λx=>x/cpz a
theorem pw(a:List Int):(cpz a).natAbs=ctn a:=by unfold cpz;split<;>omega
theorem aaZ(a:List Int)(i:Nat):cpz a ∣ a.getD i 0:=by
 rw [←Int.natAbs_dvd_natAbs,pw];exact vx a i
theorem ab8{l:List Int}(h:l≠[]→l.getD (l.length-1) 0≠0):Nm l:=λz hz=>by
 have h0:l≠[]:=λe=>by rw [e] at hz;simp at hz
 have:=h h0;rw [List.getLast?_eq_getElem?] at hz;rw [List.getD_eq_getElem?_getD,hz] at this;exact this
def l6(a b:List Int):List Int:=(prz a b (a.length+1-b.length)).2
theorem yz{b:List Int}(ha:Nm a)(hb:b≠[]):(l6 a b).length<b.length:=by
 have h:=tn ha hb;have hbl:0<b.length:=List.length_pos_iff.2 hb;have:=h.nr.len_le (n:=b.length-1) h.lt;unfold l6;omega
end
def xg(xs:List Int)(i:Nat):Int:=xs.getD i 0
def gG(xs:List Int)(i:Nat):Nat→List Int
 | 0=>[1]
 | m+1=>if m=i then gG xs i m else pmt (gG xs i m) [-(xg xs m),1]
def dnz(xs:List Int)(i:Nat):Nat→Int
 | 0=>1
 | m+1=>if m=i then dnz xs i m else dnz xs i m*(xg xs i-xg xs m)
theorem xV{xs:List Int}{i:Nat}:∀{m:Nat},(∀k,k<m→k≠i→xg xs i≠xg xs k)→dnz xs i m≠0
 | 0,_=>by simp [dnz]
 | m+1,h=>by
  have ih:=xV (m:=m) λk hk=>h k om
  unfold dnz;split
  ·exact ih
  ·rename_i hm;refine Int.mul_ne_zero ih ?_;have:=h m om hm;omega
def ips(xs:List Int)(c:Nat→Int)(n j:Nat):Nat→Int
 | 0=>0
 | m+1=>ips xs c n j m+(gG xs m n).getD j 0*c m
theorem yD(a:List Int)(x y:Int):(pmt a [x,y]).length≤a.length+1:=by
 refine Nat.le_trans (ak _) ?_;by_cases ha:a=[]
 ·subst ha;simp [pm]
 ·rw [tA smp ha];simp
theorem qO{xs:List Int}{i H:Nat}(hx:∀k,bl (xg xs k).natAbs≤H):∀m,(gG xs i m).length≤1+m∧hgt (gG xs i m)≤1+m*(H+3)
 | 0=>by
  refine⟨by simp [gG],fz λj=>?_⟩;show bl (([1]:List Int).getD j 0).natAbs≤_;match j with
  | 0=>exact Nat.le_trans (bh (k:=1) dcd) om
  | j+1=>simp [fb]
 | m+1=>by
  obtain⟨h1,h2⟩:=qO (i:=i) hx m;unfold gG;rw [Nat.add_mul,Nat.one_mul];split
  ·exact⟨om,om⟩
  ·refine⟨Nat.le_trans (yD _ _ _) om,fz λj=>?_⟩;rw [jx];refine Nat.le_trans (nK _ _ j) ?_
   have h3:hgt [-(xg xs m),1]≤H+1:=fz λj=>by
    match j with
    | 0=>simp only [List.getD_cons_zero,Int.natAbs_neg];have:=hx m;omega
    | 1=>exact Nat.le_trans (bh (k:=1) smp) om
    | j+2=>simp [fb]
   have h4:bl (min (gG xs i m).length [-(xg xs m),1].length)≤2:=bh (by simp;omega);omega
theorem xU{xs:List Int}{i H:Nat}(hx:∀k,bl (xg xs k).natAbs≤H):∀m,bl (dnz xs i m).natAbs≤1+m*(H+1)
 | 0=>by simp only [dnz];exact Nat.le_trans (bh (k:=1) dcd) om
 | m+1=>by
  have ih:=xU (i:=i) hx m;unfold dnz;rw [Nat.add_mul,Nat.one_mul];split
  ·omega
  ·exact Nat.le_trans (ku ih (pA (hx i) (hx m))) om
section
variable {c x:Int}
theorem wQ(x c:Int):(if (!(decide (x<0) == decide (c<0)))=true then -((x.natAbs/c.natAbs:Nat):Int) else ((x.natAbs/c.natAbs:Nat):Int))=x.tdiv c:=by
 rcases Int.lt_or_le x 0 with hx|hx<;>rcases Int.lt_or_le c 0 with hc|hc
 ·obtain⟨X,hX⟩:∃X:Nat,x=-(X:Int):=⟨x.natAbs,om⟩;obtain⟨C,hC⟩:∃C:Nat,c=-(C:Int):=⟨c.natAbs,om⟩;rw [decide_eq_true hx,decide_eq_true hc];subst hX;subst hC;simp [Int.neg_tdiv,Int.tdiv_neg]
 ·obtain⟨X,hX⟩:∃X:Nat,x=-(X:Int):=⟨x.natAbs,om⟩;obtain⟨C,hC⟩:∃C:Nat,c=(C:Int):=⟨c.natAbs,om⟩;rw [decide_eq_true hx,decide_eq_false om];subst hX;subst hC;simp [Int.neg_tdiv,Int.tdiv_neg]
 ·obtain⟨X,hX⟩:∃X:Nat,x=(X:Int):=⟨x.natAbs,om⟩;obtain⟨C,hC⟩:∃C:Nat,c=-(C:Int):=⟨c.natAbs,om⟩;rw [decide_eq_false (show ¬x<0 by omega),decide_eq_true hc];subst hX;subst hC;simp [Int.neg_tdiv,Int.tdiv_neg]
 ·obtain⟨X,hX⟩:∃X:Nat,x=(X:Int):=⟨x.natAbs,om⟩;obtain⟨C,hC⟩:∃C:Nat,c=(C:Int):=⟨c.natAbs,om⟩;rw [decide_eq_false (show ¬x<0 by omega),decide_eq_false (show ¬c<0 by omega)];subst hX;subst hC;simp
theorem zl:c.natAbs ∣ x.natAbs↔c ∣ x:=Int.natAbs_dvd_natAbs
theorem wR(h:c ∣ x):x.tdiv c=x/c:=by
 obtain⟨q,rfl⟩:=h;by_cases hc:c=0
 ·subst hc;simp
 ·rw [Int.mul_tdiv_cancel_left _ hc,Int.mul_ediv_cancel_left _ hc]
end
end Go.Proofs.YtpbimnlggalnfaaGreatDoor.Zg
