/- A part of the proofs of this seat's laws. -/
import Derived.Test.YtpbimnlggalnfaaGreatDoorGZA
set_option linter.unusedVariables false
set_option linter.unusedSimpArgs false
set_option linter.unnecessarySimpa false
namespace Go.Proofs.YtpbimnlggalnfaaGreatDoor.Zg
open Go.RowKit
section
variable {b q r:List Int} {n:Nat}
def exz(b:List Int):Nat→List Int→List Int→Option (List Int)
 | 0,r,q=>if r.length<b.length then if r=[] then some q else none else none
 | n+1,r,q=>if r.length<b.length then if r=[] then some q else none else
   if ldz b ∣ ldz r then exz b n (Sb r (shz (r.length-b.length) (Sc (ldz r/ldz b) b))) (Ad q (shz (r.length-b.length) [ldz r/ldz b])) else none
theorem mM(h:r.length<b.length):exz b n r q=if r=[] then some q else none:=by
 cases n<;>rw [exz,if_pos h]
theorem qa(h:b.length≤r.length)(hd:ldz b ∣ ldz r):exz b (n+1) r q=exz b n (Sb r (shz (r.length-b.length) (Sc (ldz r/ldz b) b))) (Ad q (shz (r.length-b.length) [ldz r/ldz b])):=by
 rw [exz,if_neg om,if_pos hd]
theorem ue(h:b.length≤r.length)(hd:¬ldz b ∣ ldz r):exz b (n+1) r q=none:=by
 rw [exz,if_neg om,if_neg hd]
theorem aa2(b r:List Int)(c:Int)(i:Nat):(Sb r (shz (r.length-b.length) (Sc c b))).getD i 0=r.getD i 0-if i<r.length-b.length then 0 else b.getD (i-(r.length-b.length)) 0*c:=by
 rw [mH,iV];split
 ·rfl
 ·rw [nz]
theorem rk(hb:b≠[])(h:b.length≤r.length)(hd:ldz b ∣ ldz r):(Sb r (shz (r.length-b.length) (Sc (ldz r/ldz b) b))).length<r.length:=by
 have hpos:0<b.length:=List.length_pos_iff.2 hb;refine Nat.lt_of_le_of_lt (Nm.len_le (Nm.trim _) (n:=r.length-1) λi hi=>?_) om;show (Sb r _).getD i 0=0;rw [aa2,if_neg om];rcases Nat.lt_or_ge i r.length with h1|h1
 ·have:i=r.length-1:=om;subst this;rw [show r.length-1-(r.length-b.length)=b.length-1 by omega];show ldz r-ldz b*_=0;rw [Int.mul_ediv_cancel' hd];omega
 ·rw [gtb (l:=r) h1,gtb (l:=b) om];simp
theorem vC{A B:Nat}(hd:ldz b ∣ ldz r)(hA:hgt r≤A)(hB:hgt b≤B):hgt (Sb r (shz (r.length-b.length) (Sc (ldz r/ldz b) b)))≤A+B+1:=by
 have hc:bl (ldz r/ldz b).natAbs≤A:=by
  refine bi (Nat.lt_of_le_of_lt ?_ (Nat.lt_of_lt_of_le (fj (ldz r).natAbs) (Nat.pow_le_pow_right dcd (fI hA _))));exact Int.natAbs_ediv_le_natAbs _ _
 refine abY (Nat.le_trans hA om) (rh (Nat.le_trans (tX hB hc) om))
theorem ab0(hb:b≠[])(hbn:Nm b):∀{n:Nat} {d r q:List Int},Nm d→Nm r→(∀i,r.getD i 0=(pm d b).getD i 0)→r.length≤n+b.length-1→∃q',exz b n r q=some q'∧∀i,q'.getD i 0=q.getD i 0+d.getD i 0:=by
 intro n;have hpos:0<b.length:=List.length_pos_iff.2 hb;have hlb:ldz b≠0:=hbn.get hb;have bb:∀i,b.length-1<i→b.getD i 0=0:=λi hi=>gtb om
 induction n with
 | zero=>
  intro d r q hd hr he hl
  have hdn:d=[]:=by
   rcases Nat.eq_zero_or_pos d.length with h|h
   ·exact List.length_eq_zero_iff.1 h
   ·exfalso;have hne:d≠[]:=λe=>by rw [e] at h;simp at h
    have ht:=tC (a:=d) (b:=b) (d:=d.length-1) (e:=b.length-1) (λi hi=>gtb om) bb;rw [←he,gtb om] at ht;rcases Int.mul_eq_zero.1 ht.symm with h2|h2
    ·exact hd.get hne h2
    ·exact hlb h2
  subst hdn;have hrn:r=[]:=hr.ext (by intro z hz;simp at hz) λi=>by rw [he];simp [pm]
  subst hrn;exact⟨q,by rw [mM (by simpa using hpos),if_pos rfl],λi=>by simp⟩
 | succ n ih=>
  intro d r q hd hr he hl;rcases Nat.lt_or_ge r.length b.length with hs|hs
  ·have hdn:d=[]:=by
    rcases Nat.eq_zero_or_pos d.length with h|h
    ·exact List.length_eq_zero_iff.1 h
    ·exfalso;have hne:d≠[]:=λe=>by rw [e] at h;simp at h
     have ht:=tC (a:=d) (b:=b) (d:=d.length-1) (e:=b.length-1) (λi hi=>gtb om) bb;rw [←he,gtb om] at ht;rcases Int.mul_eq_zero.1 ht.symm with h2|h2
     ·exact hd.get hne h2
     ·exact hlb h2
   subst hdn;have hrn:r=[]:=hr.ext (by intro z hz;simp at hz) λi=>by rw [he];simp [pm]
   subst hrn;exact⟨q,by rw [mM hs,if_pos rfl],λi=>by simp⟩
  ·have hrne:r≠[]:=λe=>by rw [e,List.length_nil] at hs;omega
   have hdne:d≠[]:=λe=>by
    subst e;exact hrne (hr.ext (by intro z hz;simp at hz) λi=>by rw [he];simp [pm])
   have hdp:0<d.length:=List.length_pos_iff.2 hdne;have ht:=tC (a:=d) (b:=b) (d:=d.length-1) (e:=b.length-1) (λi hi=>gtb om) bb;have hld:ldz d≠0:=hd.get hdne;have ht0:(pm d b).getD (d.length-1+(b.length-1)) 0≠0:=by rw [ht];exact Int.mul_ne_zero hld hlb
   have hlen:r.length=d.length+b.length-1:=by
    refine Nat.le_antisymm (hr.len_le λi hi=>?_) ?_
    ·rw [he,jM];refine (Sg.congr (g:=λ_=>0) λu hu=>?_).trans (Sg.zero _);rcases Nat.lt_or_ge u d.length with h|h
     ·rw [gtb (l:=b) om,Int.mul_zero]
     ·rw [gtb (l:=d) h,Int.zero_mul]
    ·rcases Nat.lt_or_ge (d.length-1+(b.length-1)) r.length with h|h
     ·omega
     ·exact absurd (by rw [←he,gtb h]) ht0
   have hlr:ldz r=ldz d*ldz b:=by
    unfold ldz;rw [he,show r.length-1=d.length-1+(b.length-1) by omega,ht]
   have hdv:ldz b ∣ ldz r:=⟨ldz d,by rw [hlr,Int.mul_comm]⟩;have hq:ldz r/ldz b=ldz d:=by rw [hlr,Int.mul_ediv_cancel _ hlb]
   rw [qa hs hdv,hq];obtain⟨H,hH⟩:∃H,r.length-b.length=H:=⟨_,rfl⟩;have hHd:H=d.length-1:=om;rw [hH]
   have hr':∀i,(Sb r (shz H (Sc (ldz d) b))).getD i 0=(pm (Sb d (shz H [ldz d])) b).getD i 0:=λi=>by
    have e1:(pm (Sb d (shz H [ldz d])) b).getD i 0=(pm (fg d (ngz (shz H [ldz d]))) b).getD i 0:=nV (λi=>by rw [Sb,bQ]) (λi=>rfl) i;rw [e1,aaP,abC,xD,mH,he,iV,iV];split
    ·omega
    ·rw [nz]
     have:(pm [ldz d] b).getD (i-H) 0=ldz d*b.getD (i-H) 0:=by
      have:=kP (pm [ldz d] b) (b.map (ldz d*·)) (λB _=>by rw [iZ,nf];simp [ax]) (i-H);rw [this,ki smp]
     rw [this,Int.mul_comm];omega
   have hl':(Sb r (shz H (Sc (ldz d) b))).length≤n+b.length-1:=by
    have:=rk hb hs hdv;rw [hq,hH] at this;omega
   obtain⟨q',h1,h2⟩:=ih (d:=Sb d (shz H [ldz d])) (q:=Ad q (shz H [ldz d])) (Nm.trim _) (Nm.trim _) hr' hl';refine⟨q',h1,λi=>?_⟩;rw [h2,ln,mH];omega
end
end Go.Proofs.YtpbimnlggalnfaaGreatDoor.Zg
