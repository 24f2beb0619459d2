/- A part of the proofs of this seat's laws. -/
import Derived.Test.YtpbimnlggalnfaaGreatDoorGZA
set_option linter.unusedVariables false
set_option linter.unusedSimpArgs false
set_option linter.unnecessarySimpa false
namespace Go.Proofs.YtpbimnlggalnfaaGreatDoor.Zg
open Go.RowKit
section
variable {b q r:List Int} {n:Nat}
def exz(b:List Int):Nat→List Int→List Int→Option (List Int)
 | 0,r,q=>if r.length<b.length then if r=[] then some q else none else none
 | n+1,r,q=>if r.length<b.length then if r=[] then some q else none else
   if ldz b ∣ ldz r then exz b n (Sb r (shz (r.length-b.length) (Sc (ldz r/ldz b) b))) (Ad q (shz (r.length-b.length) [ldz r/ldz b])) else none
theorem qg(h:r.length<b.length):exz b n r q=if r=[] then some q else none:=by
 cases n<;>rw [exz,if_pos h]
theorem vN(h:b.length≤r.length)(hd:ldz b ∣ ldz r):exz b (n+1) r q=exz b n (Sb r (shz (r.length-b.length) (Sc (ldz r/ldz b) b))) (Ad q (shz (r.length-b.length) [ldz r/ldz b])):=by
 rw [exz,if_neg om,if_pos hd]
theorem abo(h:b.length≤r.length)(hd:¬ldz b ∣ ldz r):exz b (n+1) r q=none:=by
 rw [exz,if_neg om,if_neg hd]
theorem acE(b r:List Int)(c:Int)(i:Nat):(Sb r (shz (r.length-b.length) (Sc c b))).getD i 0=r.getD i 0-if i<r.length-b.length then 0 else b.getD (i-(r.length-b.length)) 0*c:=by
 rw [kN,ir];split
 ·rfl
 ·rw [iB]
theorem xr(hb:b≠[])(h:b.length≤r.length)(hd:ldz b ∣ ldz r):(Sb r (shz (r.length-b.length) (Sc (ldz r/ldz b) b))).length<r.length:=by
 have hpos:0<b.length:=List.length_pos_iff.2 hb;refine Nat.lt_of_le_of_lt (Nm.len_le (Nm.trim _) (n:=r.length-1) λi hi=>?_) om;show (Sb r _).getD i 0=0;rw [acE,if_neg om];rcases Nat.lt_or_ge i r.length with h1|h1
 ·have:i=r.length-1:=om;subst this;rw [show r.length-1-(r.length-b.length)=b.length-1 by omega];show ldz r-ldz b*_=0;rw [Int.mul_ediv_cancel' hd];omega
 ·rw [gtb (l:=r) h1,gtb (l:=b) om];simp
theorem acD{A B:Nat}(hd:ldz b ∣ ldz r)(hA:hgt r≤A)(hB:hgt b≤B):hgt (Sb r (shz (r.length-b.length) (Sc (ldz r/ldz b) b)))≤A+B+1:=by
 have hc:bl (ldz r/ldz b).natAbs≤A:=by
  refine aY (Nat.lt_of_le_of_lt ?_ (Nat.lt_of_lt_of_le (fr (ldz r).natAbs) (Nat.pow_le_pow_right dcd (bp hA _))));exact Int.natAbs_ediv_le_natAbs _ _
 refine zY (Nat.le_trans hA om) (oJ (Nat.le_trans (mG hB hc) om))
theorem ady(hb:b≠[])(hbn:Nm b):∀{n:Nat} {d r q:List Int},Nm d→Nm r→(∀i,r.getD i 0=(pm d b).getD i 0)→r.length≤n+b.length-1→∃q',exz b n r q=some q'∧∀i,q'.getD i 0=q.getD i 0+d.getD i 0:=by
 intro n;have hpos:0<b.length:=List.length_pos_iff.2 hb;have hlb:ldz b≠0:=hbn.get hb;have bb:∀i,b.length-1<i→b.getD i 0=0:=λi hi=>gtb om
 induction n with
 | zero=>
  intro d r q hd hr he hl
  have hdn:d=[]:=by
   rcases Nat.eq_zero_or_pos d.length with h|h
   ·exact List.length_eq_zero_iff.1 h
   ·exfalso;have hne:d≠[]:=λe=>by rw [e] at h;simp at h
    have ht:=pV (a:=d) (b:=b) (d:=d.length-1) (e:=b.length-1) (λi hi=>gtb om) bb;rw [←he,gtb om] at ht;rcases Int.mul_eq_zero.1 ht.symm with h2|h2
    ·exact hd.get hne h2
    ·exact hlb h2
  subst hdn;have hrn:r=[]:=hr.ext (by intro z hz;simp at hz) λi=>by rw [he];simp [pm]
  subst hrn;exact⟨q,by rw [qg (by simpa using hpos),if_pos rfl],λi=>by simp⟩
 | succ n ih=>
  intro d r q hd hr he hl;rcases Nat.lt_or_ge r.length b.length with hs|hs
  ·have hdn:d=[]:=by
    rcases Nat.eq_zero_or_pos d.length with h|h
    ·exact List.length_eq_zero_iff.1 h
    ·exfalso;have hne:d≠[]:=λe=>by rw [e] at h;simp at h
     have ht:=pV (a:=d) (b:=b) (d:=d.length-1) (e:=b.length-1) (λi hi=>gtb om) bb;rw [←he,gtb om] at ht;rcases Int.mul_eq_zero.1 ht.symm with h2|h2
     ·exact hd.get hne h2
     ·exact hlb h2
   subst hdn;have hrn:r=[]:=hr.ext (by intro z hz;simp at hz) λi=>by rw [he];simp [pm]
   subst hrn;exact⟨q,by rw [qg hs,if_pos rfl],λi=>by simp⟩
  ·have hrne:r≠[]:=λe=>by rw [e,List.length_nil] at hs;omega
   have hdne:d≠[]:=λe=>by
    subst e;exact hrne (hr.ext (by intro z hz;simp at hz) λi=>by rw [he];simp [pm])
   have hdp:0<d.length:=List.length_pos_iff.2 hdne;have ht:=pV (a:=d) (b:=b) (d:=d.length-1) (e:=b.length-1) (λi hi=>gtb om) bb;have hld:ldz d≠0:=hd.get hdne;have ht0:(pm d b).getD (d.length-1+(b.length-1)) 0≠0:=by rw [ht];exact Int.mul_ne_zero hld hlb
   have hlen:r.length=d.length+b.length-1:=by
    refine Nat.le_antisymm (hr.len_le λi hi=>?_) ?_
    ·rw [he,ii];refine (Sg.congr (g:=λ_=>0) λu hu=>?_).trans (Sg.zero _);rcases Nat.lt_or_ge u d.length with h|h
     ·rw [gtb (l:=b) om,Int.mul_zero]
     ·rw [gtb (l:=d) h,Int.zero_mul]
    ·rcases Nat.lt_or_ge (d.length-1+(b.length-1)) r.length with h|h
     ·omega
     ·exact absurd (by rw [←he,gtb h]) ht0
   have hlr:ldz r=ldz d*ldz b:=by
    unfold ldz;rw [he,show r.length-1=d.length-1+(b.length-1) by omega,ht]
   have hdv:ldz b ∣ ldz r:=⟨ldz d,by rw [hlr,Int.mul_comm]⟩;have hq:ldz r/ldz b=ldz d:=by rw [hlr,Int.mul_ediv_cancel _ hlb]
   rw [vN hs hdv,hq];obtain⟨H,hH⟩:∃H,r.length-b.length=H:=⟨_,rfl⟩;have hHd:H=d.length-1:=om;rw [hH]
   have hr':∀i,(Sb r (shz H (Sc (ldz d) b))).getD i 0=(pm (Sb d (shz H [ldz d])) b).getD i 0:=λi=>by
    have e1:(pm (Sb d (shz H [ldz d])) b).getD i 0=(pm (dT d (ngz (shz H [ldz d]))) b).getD i 0:=fT (λi=>by rw [Sb,aT]) (λi=>rfl) i;rw [e1,qu,zx,vi,kN,he,ir,ir];split
    ·omega
    ·rw [iB]
     have:(pm [ldz d] b).getD (i-H) 0=ldz d*b.getD (i-H) 0:=by
      have:=jc (pm [ldz d] b) (b.map (ldz d*·)) (λB _=>by rw [dZ,kA];simp [ak]) (i-H);rw [this,aZ smp]
     rw [this,Int.mul_comm];omega
   have hl':(Sb r (shz H (Sc (ldz d) b))).length≤n+b.length-1:=by
    have:=xr hb hs hdv;rw [hq,hH] at this;omega
   obtain⟨q',h1,h2⟩:=ih (d:=Sb d (shz H [ldz d])) (q:=Ad q (shz H [ldz d])) (Nm.trim _) (Nm.trim _) hr' hl';refine⟨q',h1,λi=>?_⟩;rw [h2,oS,kN];omega
end
section
variable {k p:Nat} {a b d q r:List Int}
theorem vA{P:Nat→Prop}(h:∃n,P n):∃n,P n∧∀m,m<n→¬P m:=by
 obtain⟨n,hn⟩:=h;induction n using Nat.strongRecOn with
 | ind n ih=>
  by_cases h:∃m,m<n∧P m
  ·obtain⟨m,h1,h2⟩:=h;exact ih m h1 h2
  ·exact⟨n,hn,λm h1 h2=>h ⟨m,h1,h2⟩⟩
def Pri(p:Nat):Prop:=2≤p∧∀d,d ∣ p→d=1∨d=p
theorem ada{m:Nat}(h:2≤m):∃p,Pri p∧p ∣ m:=by
 obtain⟨p,⟨h1,h2⟩,h3⟩:=vA (P:=λk=>2≤k∧k ∣ m) ⟨m,h,Nat.dvd_refl m⟩;refine⟨p,⟨h1,λd hd=>?_⟩,h2⟩;have hp:0<p:=om;have h5:=Nat.le_of_dvd hp hd;rcases Nat.lt_or_ge d 2 with h4|h4
 ·rcases Nat.eq_zero_or_pos d with h0|h0
  ·subst h0;have:=Nat.eq_zero_of_zero_dvd hd;omega
  ·exact .inl om
 ·rcases Nat.lt_or_ge d p with h6|h6
  ·exact absurd ⟨h4,Nat.dvd_trans hd h2⟩ (h3 d h6)
  ·exact .inr om
theorem Pri.mul(h:Pri p){x y:Int}(hd:(p:Int) ∣ x*y):(p:Int) ∣ x∨(p:Int) ∣ y:=by
 have hd':p ∣ x.natAbs*y.natAbs:=by rw [←Int.natAbs_mul];exact Int.ofNat_dvd_left.1 hd
 rcases h.2 _ (Nat.gcd_dvd_left p x.natAbs) with h1|h1
 ·exact .inr (Int.ofNat_dvd_left.2 (Nat.Coprime.dvd_of_dvd_mul_left h1 hd'))
 ·exact .inl (Int.ofNat_dvd_left.2 (h1▸Nat.gcd_dvd_right p x.natAbs))
theorem wc{p:Int}{f:Nat→Int}:∀{n:Nat},(∀u,u<n→p ∣ f u)→p ∣ Sg n f
 | 0,_=>by simp [Sg]
 | n+1,h=>by rw [Sg];exact Int.dvd_add (wc λu hu=>h u om) (h n om)
theorem xI{p:Int}{f:Nat→Int}{k:Nat}:∀{n:Nat},k<n→(∀u,u<n→u≠k→p ∣ f u)→p ∣ Sg n f→p ∣ f k
 | n+1,hk,h,hs=>by
  rw [Sg] at hs;rcases Nat.lt_or_ge k n with h1|h1
  ·exact xI h1 (λu hu=>h u om) ((Int.dvd_add_left (h n om om)).1 hs)
  ·have:k=n:=om;subst this;exact (Int.dvd_add_right (wc λu hu=>h u om om)).1 hs
theorem aac(hp:Pri p){e:List Int}(h:∀i,(p:Int) ∣ (pm d e).getD i 0):(∀i,(p:Int) ∣ d.getD i 0)∨∀i,(p:Int) ∣ e.getD i 0:=by
 by_cases hd:∀i,(p:Int) ∣ d.getD i 0
 ·exact .inl hd
 by_cases he:∀i,(p:Int) ∣ e.getD i 0
 ·exact .inr he
 exfalso;obtain⟨i,hi,hi'⟩:=vA (P:=λi=>¬(p:Int) ∣ d.getD i 0) (Classical.not_forall.1 hd);obtain⟨j,hj,hj'⟩:=vA (P:=λi=>¬(p:Int) ∣ e.getD i 0) (Classical.not_forall.1 he);have h1:=h (i+j);rw [ii] at h1;have h2:=xI (k:=i) om (λu hu hne=>?_) h1
 ·rw [show i+j-i=j by omega] at h2;rcases hp.mul h2 with h3|h3
  ·exact hi h3
  ·exact hj h3
 ·rcases Nat.lt_or_ge u i with h3|h3
  ·exact Int.dvd_trans (Classical.not_not.1 (hi' u h3)) (Int.dvd_mul_right _ _)
  ·exact Int.dvd_trans (Classical.not_not.1 (hj' (i+j-u) om)) (Int.dvd_mul_left _ _)
theorem vj(c:Int)(a b:List Int)(i:Nat):(pm a (b.map (c*·))).getD i 0=c*(pm a b).getD i 0:=by
 rw [mT,no,mT]
theorem aea(hd:ctn d=1):∀{m:Nat},0<m→∀{e:List Int},(∀i,(m:Int) ∣ (pm d e).getD i 0)→∀i,(m:Int) ∣ e.getD i 0:=by
 intro m;induction m using Nat.strongRecOn with
 | ind m ih=>
  intro hm e h i;rcases Nat.lt_or_ge m 2 with h1|h1
  ·have:m=1:=om;subst this;exact Int.one_dvd _
  ·obtain⟨p,hp,q,rfl⟩:=ada h1;have hp0:0<p:=by have:=hp.1;omega
   have hq0:0<q:=Nat.pos_of_ne_zero λe=>by subst e;simp at hm
   rcases aac hp λi=>Int.dvd_trans ⟨(q:Int),by rw [Int.natCast_mul]⟩ (h i) with h2|h2
   ·exfalso;have:p ∣ ctn d:=qB λi=>Int.ofNat_dvd_left.1 (h2 i)
    rw [hd] at this;have:=Nat.le_of_dvd om this;have:=hp.1;omega
   ·have hp0':(p:Int)≠0:=om
    have he:∀i,e.getD i 0=((e.map λx=>x/(p:Int)).map ((p:Int)*·)).getD i 0:=λi=>by
     rw [aZ smp,aZ smp,Int.mul_ediv_cancel' (h2 i)]
    have h3:∀i,(q:Int) ∣ (pm d (e.map λx=>x/(p:Int))).getD i 0:=λi=>by
     have h4:=h i;rw [fT (λi=>rfl) he,vj,Int.natCast_mul] at h4;exact Int.dvd_of_mul_dvd_mul_left hp0' h4
    have hlt:q<p*q:=by
     have:=Nat.mul_le_mul_right q hp.1;omega
    have h5:=ih q hlt hq0 h3 i;rw [he,aZ smp,Int.natCast_mul];exact Int.mul_dvd_mul_left _ h5
def Dz(d a:List Int):Prop:=∃h:List Int,∀i,a.getD i 0=(pm h d).getD i 0
theorem Dz.nil(d:List Int):Dz d []:=⟨[],λi=>by simp [pm]⟩
theorem Dz.refl(d:List Int):Dz d d:=⟨[1],λi=>by
 have:=jc (pm [1] d) d (λB _=>by rw [dZ];simp [ak]) i;rw [this]⟩
theorem Dz.congr(h:Dz d a)(e:∀i,b.getD i 0=a.getD i 0):Dz d b:=h.imp λ_ h i=>(e i).trans (h i)
theorem Dz.scale(h:Dz d a)(c:Int):Dz d (a.map (c*·)):=by
 obtain⟨h,hh⟩:=h;exact⟨h.map (c*·),λi=>by rw [aZ smp,no,hh]⟩
theorem Dz.add(h:Dz d a)(h':Dz d b):Dz d (dT a b):=by
 obtain⟨h,hh⟩:=h;obtain⟨g,hg⟩:=h';exact⟨dT h g,λi=>by rw [bK,qu,hh,hg]⟩
theorem Dz.mul(h:Dz d a)(q:List Int):Dz d (pm q a):=by
 obtain⟨h,hh⟩:=h;exact⟨pm q h,λi=>by rw [fT (a:=q) (a':=q) (λi=>rfl) hh,aaT]⟩
theorem Dz.trans(h:Dz d a)(h':Dz a b):Dz d b:=by
 obtain⟨g,hg⟩:=h';exact (h.mul g).congr hg
theorem Dz.unscale{c:Int}(hd:ctn d=1)(hc:c≠0)(h:Dz d (a.map (c*·))):Dz d a:=by
 obtain⟨h,hh⟩:=h;have hh:∀i,c*a.getD i 0=(pm h d).getD i 0:=λi=>by rw [←hh i,aZ smp]
 have h1:∀i,(c.natAbs:Int) ∣ h.getD i 0:=aea hd om λi=>by
  rw [mT,←hh i];exact Int.dvd_trans (Int.natAbs_dvd.2 (Int.dvd_refl c)) (Int.dvd_mul_right _ _)
 have h2:∀i,h.getD i 0=((h.map λx=>x/c).map (c*·)).getD i 0:=λi=>by
  rw [aZ smp,aZ smp,Int.mul_ediv_cancel' (Int.natAbs_dvd.1 (h1 i))]
 refine⟨h.map λx=>x/c,λi=>Int.eq_of_mul_eq_mul_left hc ?_⟩;rw [hh,fT h2 (λi=>rfl),no]
theorem Dz.sub(h:Dz d a)(h':Dz d b):Dz d (dT a (b.map ((-1)*·))):=h.add (h'.scale _)
theorem PD.dz(h:PD k a b q r)(ha:Dz d a)(hb:Dz d b):Dz d r:=
 ((ha.scale ((b.getD (b.length-1) 0)^k)).sub (hb.mul q)).congr λi=>by
  rw [bK,aZ smp,aZ smp,h.eq i];omega
theorem PD.zd(h:PD k a b q r)(hd:ctn d=1)(hn:Nm b)(h0:b≠[])(hb:Dz d b)(hr:Dz d r):Dz d a:=by
 have hc:(b.getD (b.length-1) 0)^k≠0:=Int.pow_ne_zero (hn.get h0);refine Dz.unscale hd hc (((hb.mul q).add hr).congr λi=>?_);rw [aZ smp,bK,h.eq i]
theorem nn(a:List Int)(i:Nat):a.getD i 0=((ppz a).map (cpz a*·)).getD i 0:=by rw [aZ smp,oG]
theorem Dz.pp(hd:ctn d=1)(ha:Nm a):Dz d a↔Dz d (ppz a):=by
 constructor
 ·intro h;by_cases h0:a=[]
  ·subst h0;exact h
  ·refine Dz.unscale (c:=cpz a) hd (λe=>?_) (h.congr λi=>(nn a i).symm);have:=oP ha h0;rw [←kC,e] at this;simp at this
 ·intro h;exact (h.scale (cpz a)).congr (nn a)
theorem aaq{d:List Int}(hd:ctn d=1):∀{n:Nat} {a b:List Int},Nm a→Nm b→b.length≤n→(Dz d (cmf n a b)↔Dz d a∧Dz d b)
 | n,a,[],ha,hb,hn=>by rw [rD];exact⟨λh=>⟨h,Dz.nil d⟩,λh=>h.1⟩
 | 0,a,b::bs,ha,hb,hn=>by simp at hn
 | n+1,a,b::bs,ha,hb,hn=>by
  have hb0:(b::bs)≠[]:=smp;have hp:=vd ha hb0;have hr:Nm (lI a (b::bs)):=tc ha;rw [rC hb0,aaq hd hb (lJ hr) (by rw [fL];have:=qY ha hb0;omega),←Dz.pp hd hr];exact⟨λh=>⟨hp.zd hd hb hb0 h.1 h.2,h.1⟩,λh=>⟨h.2,hp.dz h.1 h.2⟩⟩
theorem xG:∀{n:Nat} {a b:List Int},Nm a→Nm b→Prm a→Prm b→Prm (cmf n a b)∧Nm (cmf n a b)∧(a≠[]∨b≠[]→b.length≤n→cmf n a b≠[])
 | n,a,[],ha,hb,pa,pb=>by rw [rD];exact⟨pa,ha,λh _=>h.resolve_right smp⟩
 | 0,a,b::bs,ha,hb,pa,pb=>⟨pa,ha,λ_ h=>by simp at h⟩
 | n+1,a,b::bs,ha,hb,pa,pb=>by
  have hb0:(b::bs)≠[]:=smp;have hr:Nm (lI a (b::bs)):=tc ha;rw [rC hb0];obtain⟨h1,h2,h3⟩:=xG (n:=n) hb (lJ hr) pb (qt hr);exact⟨h1,h2,λ_ h=>h3 (.inl hb0) (by rw [fL];have:=qY ha hb0;omega)⟩
theorem Dz.len(h:Dz d a)(hd:Nm d)(ha:Nm a)(h0:a≠[]):∃g,Nm g∧g≠[]∧d≠[]∧a.length=g.length+d.length-1∧(∀i,a.getD i 0=(pm g d).getD i 0)∧ldz a=ldz g*ldz d:=by
 obtain⟨g,hg⟩:=h;have hg:∀i,a.getD i 0=(pm (ae g) d).getD i 0:=λi=>(hg i).trans (fT (λi=>(aT g i).symm) (λ_=>rfl) i)
 generalize hG:ae g=U at hg;have hGn:Nm U:=hG▸Nm.trim g
 have hz:∀{x y:List Int},x=[]∨y=[]→∀i,(pm x y).getD i 0=0:=fun {x y} h i=>by
  rw [ii];refine (Sg.congr (g:=λ_=>0) λu _=>?_).trans (Sg.zero _);rcases h with h|h<;>subst h<;>simp
 have hG0:U≠[]:=λe=>h0 (ha.ext (by intro z hz;simp at hz) λi=>by rw [hg,hz (.inl e)];simp)
 have hd0:d≠[]:=λe=>h0 (ha.ext (by intro z hz;simp at hz) λi=>by rw [hg,hz (.inr e)];simp)
 have l1:=List.length_pos_iff.2 hG0;have l2:=List.length_pos_iff.2 hd0;have ht:=pV (a:=U) (b:=d) (d:=U.length-1) (e:=d.length-1) (λi hi=>gtb om) (λi hi=>gtb om);have hne:(pm U d).getD (U.length-1+(d.length-1)) 0≠0:=by rw [ht];exact Int.mul_ne_zero (hGn.get hG0) (hd.get hd0)
 have hl:a.length=U.length+d.length-1:=by
  refine Nat.le_antisymm (ha.len_le λi hi=>?_) ?_
  ·rw [hg,ii];refine (Sg.congr (g:=λ_=>0) λu hu=>?_).trans (Sg.zero _);rcases Nat.lt_or_ge u U.length with h|h
   ·rw [gtb (l:=d) om,Int.mul_zero]
   ·rw [gtb (l:=U) h,Int.zero_mul]
  ·rcases Nat.lt_or_ge (U.length-1+(d.length-1)) a.length with h|h
   ·omega
   ·exact absurd (by rw [←hg,gtb h]) hne
 refine⟨U,hGn,hG0,hd0,hl,hg,?_⟩;show a.getD (a.length-1) 0=U.getD _ 0*d.getD _ 0;rw [hg,hl,show U.length+d.length-1-1=U.length-1+(d.length-1) by omega,ht]
theorem acn(ha:Nm a)(hb:Nm b)(pa:Prm a)(pb:Prm b)(h:Dz a b)(h':Dz b a)(ha0:a≠[])(hb0:b≠[]):a=b:=by
 obtain⟨g,gn,g0,-,gl,gg,gd⟩:=h.len ha hb hb0;obtain⟨f,fn,f0,-,fl,-,-⟩:=h'.len hb ha ha0;have l1:=List.length_pos_iff.2 g0;have l2:=List.length_pos_iff.2 f0;have hg1:g.length=1:=om;obtain⟨c,rfl⟩:=List.length_eq_one_iff.1 hg1
 have hc:∀i,b.getD i 0=c*a.getD i 0:=λi=>by
  have:=jc (pm [c] a) (a.map (c*·)) (λB _=>by rw [dZ,kA];simp [ak]) i;rw [gg,this,aZ smp]
 obtain⟨ca,la⟩:=pa.resolve_left ha0;obtain⟨cb,lb⟩:=pb.resolve_left hb0;have h1:c.natAbs ∣ ctn b:=qB λi=>by rw [hc,Int.natAbs_mul];exact Nat.dvd_mul_right _ _
 rw [cb] at h1;have h2:c.natAbs=1:=Nat.dvd_one.1 h1;have h3:ldz b=c*ldz a:=gd
 have h4:c=1:=by
  rcases Int.natAbs_eq c with e|e
  ·omega
  ·exfalso;rw [e,h2] at h3;omega
 exact ha.ext hb λi=>by rw [hc,h4,Int.one_mul]
end
end Go.Proofs.YtpbimnlggalnfaaGreatDoor.Zg
