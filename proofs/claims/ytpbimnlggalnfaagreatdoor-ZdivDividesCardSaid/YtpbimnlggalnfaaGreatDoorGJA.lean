/- A part of the proofs of this seat's laws. -/
import Derived.Test.YtpbimnlggalnfaaGreatDoorGME
import Derived.Test.YtpbimnlggalnfaaGreatDoorGMA
import Derived.Test.YtpbimnlggalnfaaGreatDoorGP1
import Derived.Test.YtpbimnlggalnfaaGreatDoorGP
import Derived.Test.YtpbimnlggalnfaaGreatDoorGQ
set_option linter.unusedVariables false
set_option linter.unusedSimpArgs false
set_option linter.unnecessarySimpa false
namespace Go.Proofs.YtpbimnlggalnfaaGreatDoor.Zg
open Go.RowKit
section
variable {w:TW} {N P Q R S x:Nat}
abbrev Rw5:List VT:=[.agg [.int .u64,.int .u64,.int .u64,.int .u64,.int .i64]]
theorem lead_word{s:Sl}{n:Nat}(h:Nt w s x)(hx:x<2^n)(hn:n≤1048576):Ct Pg F.jp [s.v,.int .i64 n] w aa [.one (.int .u64)] λ(r:Int) _=>r=(x/2^(n-62):Nat)∧x/2^(n-62)<4611686018427387904:=by
 refine Ct.jp ?_;unfold Sh.jp;have hsz:sz x≤bl x/64+1:=xR x;have hbl:bl x≤n:=aY hx;refine ab om om (ag (y:=((n-62:Nat):Int)) (by split<;>omega) ?_);refine c1 (limb_Shr h.here om) λs1 w1 e1 h1=>?_
 rw [show min (((n-62:Nat):Int)).toNat 1048576=n-62 by omega] at h1
 have hlt:x/2^(n-62)<4611686018427387904:=by
  refine (Nat.div_lt_iff_lt_mul (Nat.two_pow_pos _)).2 (Nat.lt_of_lt_of_le hx ?_);rw [show (4611686018427387904:Nat)=2^62 from rfl,←Nat.pow_add];exact Nat.pow_le_pow_right dcd om
 obtain⟨z,hz⟩:∃z,x/2^(n-62)=z:=⟨_,rfl⟩;rw [hz] at h1 hlt ⊢;refine c1 (dS h1.nt) ?_;rintro _ w2 e2 rfl;refine ac (λh0=>?_) (λh0=>?_)
 ·subst h0;exact rt1 (c:=.int .u64) 0 (e1.trans e2) ⟨rfl,hlt⟩
 ·have hzW:z<W64:=by rw [w64];omega
  have hg:(dg W64 z).getD 0 0=z:=by rw [xz W2,Nat.pow_zero,Nat.div_one,Nat.mod_eq_of_lt hzW]
  have hl:0<(dg W64 z).length:=by
   rw [aA];have:=(not_congr (kz (x:=z))).2 h0;omega
  refine (h1.ext e2).rd.ix (j:=0) rfl hl ?_;rw [hg];exact rt1 (c:=.int .u64) _ (e1.trans e2) ⟨rfl,hlt⟩
theorem lead_Row_quotient{y:Nat}(hP:P<4611686018427387904)(hQ:Q<4611686018427387904)(hR:R<4611686018427387904)(hS:S<4611686018427387904)(hx:x<4611686018427387904)(hy:y<4611686018427387904):
  Ct Pg F.dK [.agg #[.int .u64 P,.int .u64 Q,.int .u64 R,.int .u64 S,.int .i64 N],.int .u64 x,.int .u64 y] w aa [.one (.int .u64),.one .bool] λ(r:Int)(ok:Bool) _=>ok=true→∃k lx mx ly my,r=(k:Nat)∧k<2147483648∧(N%2=0→lx=Q∧mx=P∧ly=R∧my=S)∧(N%2=1→lx=P∧mx=Q∧ly=S∧my=R)∧lx≤x∧ly<y∧(x-lx)/(y+my)=k∧(x+mx)/(y-ly)=k:=by
 refine Ct.dK ?_;unfold Sh.dK;intro w1 e1;refine eP (x:=N) (y:=2) rfl rfl dcd ?_;refine j4 (λ(a b c d:Int) w2=>∃lx mx ly my:Nat,a=lx∧b=mx∧c=ly∧d=my∧lx<4611686018427387904∧mx<4611686018427387904∧ly<4611686018427387904∧my<4611686018427387904∧(N%2=0→lx=Q∧mx=P∧ly=R∧my=S)∧(N%2=1→lx=P∧mx=Q∧ly=S∧my=R)∧Ext aa w.here w2) ?_ ?_
 ·refine aG (λh=>?_) (λh=>?_)
  ·simp only [beq_iff_eq] at h;exact⟨P,Q,S,R,rfl,rfl,rfl,rfl,hP,hQ,hS,hR,λh'=>by omega,λ_=>⟨rfl,rfl,rfl,rfl⟩,e1.drew.drew⟩
  ·simp only [beq_eq_false_iff_ne,ne_eq] at h;exact⟨Q,P,R,S,rfl,rfl,rfl,rfl,hQ,hP,hR,hS,λ_=>⟨rfl,rfl,rfl,rfl⟩,λh'=>by omega,e1.drew⟩
 rintro a b c d w2 ⟨lx,mx,ly,my,rfl,rfl,rfl,rfl,h1,h2,h3,h4,he,ho,e2⟩;refine j1 (λ(z:Bool) w3=>w3=w2∧(z=false→lx≤x∧ly<y)) ?_ ?_
 ·refine ac (λh=>⟨rfl,λh=>(by cases h)⟩) (λh=>⟨rfl,λh'=>?_⟩);rw [decide_eq_false_iff_not] at h';omega
 rintro z w3 ⟨rfl,hz⟩;cases z with
 | true=>exact aQ rfl (rt2 (c:=.int .u64) (d:=.bool) 0 false e2 (λh=>(by cases h)))
 | false=>
  obtain⟨g1,g2⟩:=hz rfl;refine ap rfl ?_;have w:=w64;refine ai (y:=x-lx) om om (ai (y:=y+my) om om (j6 (x:=x-lx) (y:=y+my) rfl rfl om om ?_));refine ai (y:=x+mx) om om (ai (y:=y-ly) om om (j6 (x:=x+mx) (y:=y-ly) rfl rfl om om ?_));obtain⟨k1,hk1⟩:∃k,(x-lx)/(y+my)=k:=⟨_,rfl⟩;obtain⟨k2,hk2⟩:∃k,(x+mx)/(y-ly)=k:=⟨_,rfl⟩;rw [hk1,hk2];refine j2 (λ(a:Int)(b:Bool) w4=>a=k1∧(b=true→k1=k2∧k1<2147483648)∧Ext aa w3 w4) ?_ ?_
  ·refine aG (λh=>?_) (λh=>?_)
   ·simp only [beq_iff_eq] at h;exact⟨rfl,λh'=>by rw [decide_eq_true_iff] at h';omega,(Ext.refl _ _).drew⟩
   ·exact⟨rfl,λh=>(by cases h),(Ext.refl _ _).drew⟩
  rintro a b w4 ⟨rfl,hb,e4⟩;refine rt2 (c:=.int .u64) (d:=.bool) _ b (e2.trans e4) λh=>?_
  obtain⟨rfl,h5⟩:=hb h;exact⟨k1,lx,mx,ly,my,rfl,h5,he,ho,g1,g2,hk1,hk2⟩
theorem lead_Row_next{k:Nat}(hP:P≤1073741824)(hQ:Q≤1073741824)(hR:R<1073741824)(hS:S<1073741824)(hk:k<2147483648)(hN:N<9223372036854775807):
  Ct Pg F.gu [.agg #[.int .u64 P,.int .u64 Q,.int .u64 R,.int .u64 S,.int .i64 N],.int .u64 k] w aa Rw5 λ(a b c d n:Int) _=>a=R∧b=S∧c=(P+k*R:Nat)∧d=(Q+k*S:Nat)∧n=(N+1:Nat)∧P+k*R<4611686018427387904∧Q+k*S<4611686018427387904:=by
 refine Ct.gu ?_;unfold Sh.gu;intro w1 e1 w2 e2;have k1:k*R≤2147483647*1073741823:=Nat.mul_le_mul om om;have k2:k*S≤2147483647*1073741823:=Nat.mul_le_mul om om;have w:=w64;refine ai (y:=k*R) (by rw [Int.natCast_mul]) om (ai (y:=P+k*R) om om (ai (y:=k*S) (by rw [Int.natCast_mul]) om (ai (y:=Q+k*S) om om (ab om om ?_))));intro w3 e3;exact⟨(_,_,_,_,_,()),rfl,(e1.trans e2).trans e3,rfl,rfl,rfl,rfl,rfl,om,om⟩
end
section
variable {w:TW} {s u:Sl} {x y:Nat}
structure Lw (x0 y0 P Q R S N x y:Nat):Prop where
 ld:Ld x0 y0 P Q R S N x y
 p:P≤1073741824
 q:Q≤1073741824
 r:R<4611686018427387904
 s:S<4611686018427387904
 x:x<4611686018427387904
 y:N+y<4611686018427387904
theorem lead_words{x0 y0:Nat}(hx:x0<4611686018427387904)(hy:y0<4611686018427387904):Ct Pg F.jo [.int .u64 x0,.int .u64 y0] w aa Rw5 λ(a b c d n:Int) _=>∃P Q R S N x y:Nat,a=P∧b=Q∧c=R∧d=S∧n=N∧Lw x0 y0 P Q R S N x y:=by
 refine Ct.jo ?_;unfold Sh.jo;generalize hL:(1073741824:Int)=L;intro w1 e1 w2 e2 w3 e3;refine⟨λ(_ _ _ _ _ a b c d n:Int) w'=>(∃P Q R S N x y:Nat,a=P∧b=Q∧c=R∧d=S∧n=N∧Lw x0 y0 P Q R S N x y)∧Ext aa w3 w',?_,?_⟩
 ·refine⟨λ(m:Nat)(x1 y1 _ _ _ _ _ a b c d n:Int) w'=>∃P Q R S N x y:Nat,x1=x∧y1=y∧a=P∧b=Q∧c=R∧d=S∧n=N∧m=y∧Lw x0 y0 P Q R S N x y∧Ext aa w3 w',⟨y0,1,0,0,1,0,x0,y0,rfl,rfl,rfl,rfl,rfl,rfl,rfl,rfl,⟨Ld.begin x0 y0,dcd,dcd,dcd,dcd,hx,om⟩,Ext.refl _ _⟩,?_⟩;rintro m x1 y1 x2 x3 x4 x5 x6 a b c d n w4 ⟨P,Q,R,S,N,x,y,rfl,rfl,rfl,rfl,rfl,rfl,rfl,rfl,h,e4⟩;refine⟨λ(z:Bool)(_ _ _ _ _ a b c d n:Int) w'=>a=P∧b=Q∧c=R∧d=S∧n=N∧w'=w4∧(z=true→R<1073741824∧S<1073741824),?_,?_⟩
  ·refine ac (λh=>⟨rfl,rfl,rfl,rfl,rfl,rfl,λh'=>?_⟩) (λh=>⟨rfl,rfl,rfl,rfl,rfl,rfl,λh'=>(by cases h')⟩);have h1:(R:Int)<L:=h;have h2:(S:Int)<L:=of_decide_eq_true h';omega
  rintro z x8 x9 x10 x11 x12 _ _ _ _ _ w5 ⟨rfl,rfl,rfl,rfl,rfl,rfl,hz⟩;cases z with
  | false=>exact ap rfl ⟨⟨P,Q,R,S,N,x,m,rfl,rfl,rfl,rfl,rfl,h⟩,e4⟩
  | true=>
   obtain⟨z1,z2⟩:=hz rfl;obtain⟨h1,h2,h3,h4,h5,h6,h7⟩:=h;refine aQ rfl ?_;refine c2 (lead_Row_quotient om om h4 h5 h6 om) ?_;rintro r10 ok w6 e6 hok;cases ok with
   | false=>exact aQ rfl ⟨⟨P,Q,R,S,N,x,m,rfl,rfl,rfl,rfl,rfl,h1,h2,h3,h4,h5,h6,h7⟩,e4.trans e6⟩
   | true=>
    obtain⟨k,lx,mx,ly,my,rfl,g1,g2,g3,g4,g5,g6,g7⟩:=hok rfl;obtain⟨f1,f2,f3⟩:=h1.next g2 g3 g4 g5 g6 g7;refine ap rfl ?_;have w:=w64;refine ai (y:=k*m) (by rw [Int.natCast_mul]) om (ai (y:=x-k*m) om om ?_);refine cl0 (lead_Row_next (N:=N) h2 h3 z1 z2 g1 om) ?_;rintro _ _ _ _ _ w7 e7 ⟨rfl,rfl,rfl,rfl,rfl,u1,u2⟩;intro w8 e8;exact⟨x-k*m,f3,R,S,P+k*R,Q+k*S,N+1,m,x-k*m,rfl,rfl,rfl,rfl,rfl,rfl,rfl,rfl,⟨f1,om,om,u1,u2,om,om⟩,((e4.trans e6).trans e7).trans e8⟩
 rintro _ _ _ _ _ a b c d n w9 ⟨h,e9⟩ w10 e10;exact⟨(_,_,_,_,_,()),rfl,(((e1.trans e2).trans e3).trans e9).trans e10,h⟩
theorem lead_Find(hs:Nt w s x)(hu:Nt w u y)(hyx:y≤x)(hx:sz x≤16384):Ct Pg F.jq [s.v,u.v] w aa Rw5 λ(a b c d n:Int) _=>∃P Q R S N:Nat,a=P∧b=Q∧c=R∧d=S∧n=N∧P<4611686018427387904∧Q<4611686018427387904∧R<4611686018427387904∧S<4611686018427387904∧N<4611686018427387904∧∃c d,Eu x y N S Q R P c d:=by
 refine Ct.jq ?_;unfold Sh.jq;intro w1 e1;have hs:=hs.here.ext e1;have hu:=hu.here.ext e1;have hb:=uF x;refine c1 (i6 hs om) ?_;rintro _ w2 e2 rfl;refine c1 (lead_word (n:=bl x) (hs.ext e2) (fr x) om) ?_;rintro _ w3 e3 ⟨rfl,l1⟩;have e23:=e2.trans e3;refine c1 (i6 (hs.ext e23) om) ?_;rintro _ w4 e4 rfl;have e24:=e23.trans e4;refine c1 (lead_word (n:=bl x) (hu.ext e24) (Nat.lt_of_le_of_lt hyx (fr x)) om) ?_;rintro _ w5 e5 ⟨rfl,l2⟩;refine cl0 (lead_words l1 l2) ?_;rintro _ _ _ _ _ w6 e6 ⟨P,Q,R,S,N,xx,yy,rfl,rfl,rfl,rfl,rfl,h⟩;intro w7 e7;refine⟨(_,_,_,_,_,()),rfl,(((e1.trans e24).trans e5).trans e6).trans e7,P,Q,R,S,N,rfl,rfl,rfl,rfl,rfl,?_,?_,h.r,h.s,?_,h.ld.2.2 x y _ rfl rfl⟩
 ·have:=h.p;omega
 ·have:=h.q;omega
 ·have:=h.y;omega
theorem lead_less{p q:Nat}(hs:Nt w s x)(hu:Nt w u y)(hp:p<W64)(hq:q<W64)(hx:sz x≤1048576)(hy:sz y≤1048576):Ct Pg F.ip [s.v,.int .u64 p,u.v,.int .u64 q] w aa [.one .slice] λ(r:Sl) w'=>On w' w.w.heap.size r (x*p-y*q):=by
 refine Ct.ip ?_;unfold Sh.ip;refine c1 (limb_MulWord hs.here hp om) λs1 w1 e1 h1=>?_
 have k1:=dt x p;have k2:=gI hp;refine c2 (limb_SubMul h1.nt (hu.here.ext e1) hq om om) ?_;rintro r _ w2 e2 ⟨-,h2⟩;exact rt1 (c:=.slice) _ (e1.trans e2) (h2.less e1.size).at
theorem lead_Row_Apply{P Q R S N c d:Nat}(hs:Nt w s x)(hu:Nt w u y)(hP:P<4611686018427387904)(hQ:Q<4611686018427387904)(hR:R<4611686018427387904)(hS:S<4611686018427387904)(hx:sz x≤1048576)(hy:sz y≤1048576)(hE:Eu x y N S Q R P c d):
  Ct Pg F.eR [.agg #[.int .u64 P,.int .u64 Q,.int .u64 R,.int .u64 S,.int .i64 N],s.v,u.v] w aa [.one .slice,.one .slice] λ(a b:Sl) w'=>On w' w.w.heap.size a c∧On w' w.w.heap.size b d:=by
 refine Ct.eR ?_;unfold Sh.eR;intro w1 e1;have hs:=(hs.here.ext e1).drew;have hu:=(hu.here.ext e1).drew;have w:=w64;have hP:P<W64:=om;have hQ:Q<W64:=om;have hR:R<W64:=om;have hS:S<W64:=om;refine eP (x:=N) (y:=2) rfl rfl dcd ?_;refine aG (λh=>?_) (λh=>?_)
 ·simp only [beq_iff_eq] at h;obtain⟨g1,g2⟩:=hE.back.2 om;refine c1 (lead_less hu hs hQ hP hy hx) λs1 w2 e2 h2=>?_
  refine c1 (lead_less (hs.ext e2) (hu.ext e2) hR hS hx hy) λs2 w3 e3 h3=>?_
  rw [show y*Q-x*P=c by rw [Nat.mul_comm y,Nat.mul_comm x];omega] at h2;rw [show x*R-y*S=d by rw [Nat.mul_comm y,Nat.mul_comm x];omega] at h3;exact rt2 (c:=.slice) (d:=.slice) _ _ ((e1.drew.trans e2).trans e3) ⟨((h2.ext e3).less e1.size).at,(h3.less (e1.drew.trans e2).size).at⟩
 ·simp only [beq_eq_false_iff_ne,ne_eq] at h;obtain⟨g1,g2⟩:=hE.back.1 om;refine c1 (lead_less hs hu hP hQ hx hy) λs1 w2 e2 h2=>?_
  refine c1 (lead_less (hu.ext e2) (hs.ext e2) hS hR hy hx) λs2 w3 e3 h3=>?_
  rw [show x*P-y*Q=c by rw [Nat.mul_comm y,Nat.mul_comm x];omega] at h2;rw [show y*S-x*R=d by rw [Nat.mul_comm y,Nat.mul_comm x];omega] at h3;exact rt2 (c:=.slice) (d:=.slice) _ _ ((e1.drew.trans e2).trans e3) ⟨((h2.ext e3).less e1.size).at,(h3.less (e1.drew.trans e2).size).at⟩
end
section
variable {i j x y:Nat} {w:TW}
theorem xl(h:x%2=1)(k:Nat):Nat.Coprime (2^k) x:=by
 refine Nat.Coprime.pow_left k ?_;have h1:Nat.gcd 2 x ∣ 2:=Nat.gcd_dvd_left 2 x;have h2:Nat.gcd 2 x ∣ x:=Nat.gcd_dvd_right 2 x;have h3:=Nat.le_of_dvd dcd h1;have h4:Nat.gcd 2 x≠0:=λh=>by rw [h] at h1;omega
 show Nat.gcd 2 x=1;have:Nat.gcd 2 x≠2:=λh=>by rw [h] at h2;omega
 omega
theorem qS(hx:x%2=1)(hij:i≤j):Nat.gcd (2^i*x) (2^j*y)=Nat.gcd x y*2^i:=by
 obtain⟨d,rfl⟩:∃d,j=i+d:=⟨j-i,om⟩;rw [Nat.pow_add,Nat.mul_assoc,Nat.gcd_mul_left,Nat.Coprime.gcd_mul_left_cancel_right y (xl hx d),Nat.mul_comm]
theorem vL(hx:x%2=1)(hy:y%2=1):Nat.gcd (2^i*x) (2^j*y)=Nat.gcd x y*2^min i j:=by
 rcases Nat.le_total i j with h|h
 ·rw [Nat.min_eq_left h];exact qS hx h
 ·rw [Nat.min_eq_right h,Nat.gcd_comm,Nat.gcd_comm x];exact qS hy h
theorem aaW{a b t q:Nat}(ha:a%2=1)(hb:b%2=1)(hlt:b<a)(h:a-b=2^t*q):Nat.gcd q b=Nat.gcd a b∧q<a:=by
 have h1:Nat.gcd (2^t*q) b=Nat.gcd q b:=Nat.Coprime.gcd_mul_left_cancel q (xl hb t);rw [←h,Nat.gcd_sub_self_left (Nat.le_of_lt hlt)] at h1;have h2:q≤2^t*q:=Nat.le_mul_of_pos_left q (Nat.two_pow_pos t);exact⟨h1.symm,om⟩
theorem gcd_twos{s:Sl}(hG:Gl w)(hs:Nt w s x)(h0:0<x)(hn:sz x≤16384):Ct Pg F.jz [s.v] w aa [.one (.int .i64)] λ(r:Int) _=>∃t q:Nat,r=t∧x=2^t*q∧q%2=1:=by
 refine Ct.jz ?_;unfold Sh.jz;obtain⟨l,h,rfl⟩:=hs;have h:=h.here;refine j1 (λ(k:Int) w'=>w'=w.here∧∃j,k=(j:Nat)∧j<l.length∧vl W64 (l.take j)=0∧l.getD j 0≠0∧j≤16384) ?_ ?_
 ·refine lp1 (λM (k:Int) w'=>w'=w.here∧∃j,k=(j:Nat)∧M=l.length-j∧vl W64 (l.take j)=0∧j≤16384) l.length ⟨rfl,0,rfl,om,rfl,om⟩ ?_;rintro M k w' ⟨rfl,j,rfl,rfl,hv,hj⟩
  have hjl:j<l.length:=by
   rcases Nat.lt_or_ge j l.length with h|h
   ·exact h
   ·rw [aJ h] at hv;omega
  refine h.ix rfl hjl ?_;refine aG (λhc=>?_) (λhc=>?_)
  ·simp only [beq_iff_eq] at hc;have hz:l.getD j 0=0:=om;have hv2:vl W64 (l.take (j+1))=0:=by rw [aj,hv,hz];simp
   have hj2:j+1≤16384:=by
    rcases Nat.lt_or_ge j 16384 with h'|h'
    ·exact h'
    ·exfalso;have e1:=(bQ h.sm (j+1)).2;have e2:vl W64 l<W64^(j+1):=Nat.lt_of_lt_of_le (gN _) (Nat.pow_le_pow_right dcd om);rw [Nat.mod_eq_of_lt e2,hv2] at e1;omega
   exact ab om om ⟨l.length-(j+1),om,rfl,j+1,om,rfl,hv2,hj2⟩
  ·simp only [beq_eq_false_iff_ne,ne_eq] at hc;exact⟨rfl,j,rfl,hjl,hv,om,hj⟩
 rintro k _ ⟨rfl,j,rfl,hjl,hv,hne,hj⟩;refine ab om om (h.ix rfl hjl ?_);have hlt:l.getD j 0<W64:=h.lt j;obtain⟨t,q,ht,he,hq⟩:=oC 64 (l.getD j 0) (by rw [Nat.mod_eq_of_lt hlt];exact hne);refine c1 (bits_TrailingZeros64 hG.here hlt om) ?_;rintro _ w1 e1 rfl;rw [he,rM 64 t q ht hq];refine ag (y:=((64*j+t:Nat):Int)) (by rw [ar om om];omega) ?_;refine rt1 (c:=.int .i64) _ e1 ⟨64*j+t,q+2^(64-t)*vl W64 (l.drop (j+1)),rfl,?_,?_⟩
 ·have hsp:vl W64 l=vl W64 (l.take j)+W64^j*vl W64 (l.drop j):=by
   conv=>lhs;rw [←List.take_append_drop j l]
   rw [dY,List.length_take,show min j l.length=j by omega]
  rw [hsp,hv,Nat.zero_add,kb hjl,de,he,Nat.pow_add,show 2^(64*j)=W64^j by rw [Nat.pow_mul]];have:W64=2^t*2^(64-t):=by rw [←Nat.pow_add,show t+(64-t)=64 by omega]
  generalize vl W64 (l.drop (j+1))=z;generalize 2^(64-t)=b at*;generalize 2^t=a at*;generalize W64^j=c;rw [this];grind
 ·have:2^(64-t)=2*2^(63-t):=by rw [show 64-t=(63-t)+1 by omega,Nat.pow_succ,Nat.mul_comm]
  rw [this,Nat.mul_assoc];omega
theorem sv{e0:Option Addr}{a b:Sl}(hG:Gl w)(ha:Nt w a x)(hb:Nt w b y)(hx:sz x≤8192)(hy:sz y≤8192):Ct Pg F.dN [.pointer e0,a.v,b.v] w aa [.one .slice] λ(s:Sl) w'=>On w' w.w.heap.size s (Nat.gcd x y):=by
 refine Ct.dN ?_;unfold Sh.dN;have hG:=hG.here;refine c1 (dS ha.here) ?_;rintro _ w1 e1 rfl;have ha:=ha.here.ext e1;have hb:=hb.here.ext e1;have hG:=hG.ext e1;refine ac (λh=>?_) (λhx0=>?_)
 ·subst h;refine c1 (limb_Norm hb om) λs w2 e2 h2=>?_
  rw [Nat.gcd_zero_left];exact rt1 (c:=.slice) _ (e1.trans e2) (h2.less e1.size).at
 refine c1 (dS hb) ?_;rintro _ w3 e3 rfl;have ha:=ha.ext e3;have hb:=hb.ext e3;have hG:=hG.ext e3;have e13:=e1.trans e3;refine ac (λh=>?_) (λhy0=>?_)
 ·subst h;refine c1 (limb_Norm ha om) λs w2 e2 h2=>?_
  rw [Nat.gcd_zero_right];exact rt1 (c:=.slice) _ (e13.trans e2) (h2.less e13.size).at
 refine c1 (gcd_twos hG ha om om) ?_;rintro _ w5 e5 ⟨i,X,rfl,hX,oX⟩;refine c1 (gcd_twos (hG.ext e5) (hb.ext e5) om om) ?_;rintro _ w6 e6 ⟨j,Y,rfl,hY,oY⟩
 have lim:∀{z t q:Nat},z=2^t*q→q%2=1→sz z≤8192→t≤524288:=fun {z t q} hz hq hs=>by
  have h1:2^t≤z:=by rw [hz];exact Nat.le_mul_of_pos_right _ om
  have h2:=gN z;rw [show W64^sz z=2^(64*sz z) by rw [Nat.pow_mul]] at h2;have:=(Nat.pow_lt_pow_iff_right (a:=2) dcd).1 (Nat.lt_of_le_of_lt h1 h2);omega
 have li:=lim hX oX hx;have lj:=lim hY oY hy;have e56:=e5.trans e6;refine c1 (limb_Shr (ha.ext e56) om) λs2 w7 e7 hs=>?_
 refine c1 (limb_Shr ((hb.ext e56).ext e7) om) λs3 w8 e8 hu=>?_
 rw [show min ((i:Int)).toNat 1048576=i by omega,show x/2^i=X by rw [hX,Nat.mul_div_cancel_left _ (Nat.two_pow_pos i)]] at hs;rw [show min ((j:Int)).toNat 1048576=j by omega,show y/2^j=Y by rw [hY,Nat.mul_div_cancel_left _ (Nat.two_pow_pos j)]] at hu;have kX:sz X≤sz x:=by rw [hX];exact aq (Nat.le_mul_of_pos_left _ (Nat.two_pow_pos i))
 have kY:sz Y≤sz y:=by rw [hY];exact aq (Nat.le_mul_of_pos_left _ (Nat.two_pow_pos j))
 have hg:Nat.gcd x y=Nat.gcd X Y*2^min i j:=by rw [hX,hY];exact vL oX oY
 have e36:=e13.trans e56;have z6:w.w.heap.size≤w6.w.heap.size:=e36.size;have hs8:On w8 w.w.heap.size s2 X:=(On.ext hs e8).less z6;have hu8:On w8 w.w.heap.size s3 Y:=hu.less (Nat.le_trans z6 e7.size);have hG8:=((hG.ext e56).ext e7).ext e8;refine lp2 (λM (a b:Sl) w9=>∃A B,M=A+B∧On w9 w.w.heap.size a A∧On w9 w.w.heap.size b B∧A%2=1∧B%2=1∧Nat.gcd A B=Nat.gcd X Y∧sz A≤8192∧sz B≤8192∧Gl w9∧Ext aa w.here w9) (X+Y) ⟨X,Y,rfl,hs8,hu8,oX,oY,rfl,om,om,hG8,(e36.trans e7).trans e8⟩ ?_;rintro M a b w9 ⟨A,B,rfl,hA,hB,oA,oB,hgc,lA,lB,hG9,e9⟩;refine c1 (limb_Cmp hA.nt hB.nt) ?_;rintro _ w10 e10 rfl;have hA:=On.ext hA e10;have hB:=On.ext hB e10;have hG10:=hG9.ext e10;have e910:=e9.trans e10;refine aG (λhc=>?_) (λhc=>?_)
 ·simp only [beq_iff_eq] at hc;have hAB:=mY.1 hc;subst hAB;refine ag (y:=((min i j:Nat):Int)) (by split<;>omega) ?_;refine c1 (limb_Shl hA.nt om) λs4 w11 e11 h4=>?_
  rw [show min (((min i j:Nat):Int)).toNat 1048576=min i j by omega] at h4;refine rt1 (c:=.slice) _ (e910.trans e11) ?_;rw [hg,←hgc,Nat.gcd_self];exact (h4.less e910.size).at
 ·simp only [beq_eq_false_iff_ne,ne_eq] at hc;have hne:A≠B:=λh=>hc (mY.2 h)
  refine j2 (λ(a b:Sl) w12=>∃A' B',On w12 w.w.heap.size a A'∧On w12 w.w.heap.size b B'∧A'%2=1∧B'%2=1∧B'<A'∧A'+B'=A+B∧Nat.gcd A' B'=Nat.gcd X Y∧sz A'≤8192∧sz B'≤8192∧w12=w10) ?_ ?_
  ·refine ac (λh=>?_) (λh=>?_)
   ·exact⟨B,A,hB,hA,oB,oA,ef.1 h,om,by rw [Nat.gcd_comm];exact hgc,lB,lA,rfl⟩
   ·have:¬A<B:=λh'=>h (ef.2 h')
    exact⟨A,B,hA,hB,oA,oB,om,rfl,hgc,lA,lB,rfl⟩
  clear hA hB oA oB hgc lA lB hne hc;rintro a b w12 ⟨A',B',hA,hB,oA,oB,hlt,hsum,hgc,lA,lB,rfl⟩;refine c2 (limb_Sub hA.nt hB.nt om) ?_;rintro s5 _ w13 e13' ⟨-,h5⟩;have k5:sz (A'-B')≤sz A':=lE;refine c1 (gcd_twos (hG10.ext e13') h5.nt om om) ?_;rintro _ w14 e14 ⟨t,q,rfl,hq,oq⟩;have lt:=lim hq oq om;refine c1 (limb_Shr (On.nt (On.ext h5 e14)) om) λs6 w15 e15 h6=>?_
  rw [show min ((t:Int)).toNat 1048576=t by omega,hq,Nat.mul_div_cancel_left _ (Nat.two_pow_pos t)] at h6;obtain⟨f1,f2⟩:=aaW oA oB hlt hq;have ee:=(e13'.trans e14).trans e15;have kq:sz q≤sz A':=aq (Nat.le_of_lt f2);exact⟨q+B',om,q,B',rfl,h6.less (Nat.le_trans e910.size (e13'.trans e14).size),On.ext hB ee,oq,oB,by rw [f1];exact hgc,om,lB,hG10.ext ee,e910.trans ee⟩
end
section
variable {w':TW} {a:Addr} {v:Value} {l:List (Addr × Value)}
def Hc(w:TW)(a:Addr)(v:Value):Prop:=w.w.cell? a=some v∧¬w.V a.block
theorem Hc.ext{w:TW}(h:Hc w a v)(e:Ext aa w w'):Hc w' a v:=
 have hb:=World.block_lt_of_cell? w.w _ h.1;⟨(World.cell?_of_block (e.block _ hb (λh=>h) (.inr h.2))).trans h.1,λhV=>(e.new _ hV).elim h.2 λh'=>by omega⟩
theorem Hc.extT{w:TW}{t:Nat}(h:Hc w a v)(e:Xt1 t w w')(ht:a.block≠t):Hc w' a v:=
 have hb:=World.block_lt_of_cell? w.w _ h.1;⟨(World.cell?_of_block (e.block _ hb ht (.inr h.2))).trans h.1,λhV=>(e.new _ hV).elim h.2 λh'=>by omega⟩
def HcL(w:TW)(l:List (Addr × Value)):Prop:=∀y∈l,w.w.cell? y.1=some y.2
theorem HcL.nil(w:TW):HcL w []:=λy h=>(by cases h)
theorem HcL.cons{w:TW}(h:Hc w a v)(hl:HcL w l):HcL w ((a,v)::l):=λy hy=>by
 rcases List.mem_cons.1 hy with rfl|hy
 ·exact h.1
 ·exact hl y hy
theorem iF{w:TW}{K:Prop}(h:HcL w l)(hK:K):hld w l K:=by
 cases l with
 | nil=>exact hK
 | cons x xs=>exact⟨h,hK⟩
theorem Eg.downC{w:TW}{p:Option Addr}{bs:List Nat}{b t:Nat}{now:Int}{tab:List Int}(h:Eg w p (b::bs) t now tab){K:Addr→Option Addr→Prop}(hK:∀q,Eg w q bs t now tab→Hc w ⟨b,0,none⟩ (.pointer q)→b≠t→K ⟨b,0,none⟩ q):nck p λa2=>ldc (.ptr) w a2 λ(v:Option Addr)=>K a2 v:=by
 obtain⟨a,b1,c,g,m,d,h⟩:=h;obtain⟨rfl,hV,q,h3,h4⟩:=a;exact ah ⟨q,h3,hK q ⟨h4,λc hc=>b1 c (List.mem_cons_of_mem _ hc),c,g,m,d,h⟩ ⟨h3,hV⟩ (b1 b (List.mem_cons_self ..))⟩
section
variable {w:TW} {p:Option Addr} {g po nu ra ro dv rc c m d k e t:Nat} {now:Int} {tab:List Int}
theorem yo{a b:Sl}{x y:Nat}(hE:Eg w p [g,po,nu,ra,ro,dv,rc,c,m,d,k,e] t now tab)(ha:Nt w a x)(hb:Nt w b y)(hx:sz x≤8192)(hy:sz y≤8192)(h0:0≤now)(h1:now≤1000000000000000000):
  Ct Pg F.dM [.pointer p,a.v,b.v] w (λk=>k=t) [.one .slice] λ(s:Sl) w'=>On w' w.w.heap.size s (Nat.gcd x y)∧Eg w' p [g,po,nu,ra,ro,dv,rc,c,m,d,k,e] t now tab:=by
 refine Ct.dM ?_;unfold Sh.dM;refine c1 (limb_Norm ha.here om) λs w1 e1 hs=>?_
 refine c1 (limb_Norm (hb.here.ext e1) om) λs1 w2 e2 hs1=>?_
 have hs:=On.ext hs e2;have hs1:=hs1.less e1.size;refine c1 (limb_Cmp hs.nt hs1.nt) ?_;rintro _ w3 e3 rfl;have hs:=On.ext hs e3;have hs1:=On.ext hs1 e3;have e13:=(e1.trans e2).trans e3;have hE3:=hE.here.ext e13;refine j2 (λ(a b:Sl) w4=>w4=w3∧∃A B,On w3 w.w.heap.size a A∧On w3 w.w.heap.size b B∧B≤A∧Nat.gcd A B=Nat.gcd x y∧sz A≤8192∧sz B≤8192) ?_ ?_
 ·refine ac (λh=>?_) (λh=>?_)
  ·exact⟨rfl,y,x,hs1,hs,Nat.le_of_lt (ef.1 h),Nat.gcd_comm _ _,hy,hx⟩
  ·exact⟨rfl,x,y,hs,hs1,Nat.not_lt.1 λh'=>h (ef.2 h'),rfl,hx,hy⟩
 clear hs hs1;rintro a b w3 ⟨rfl,A,B,hA,hB,hle,hg,lA,lB⟩;refine j1 (λ(a:Sl) w12=>On w12 w.w.heap.size a (Nat.gcd x y)∧Xt1 t w3 w12∧Eg w12 p [g,po,nu,ra,ro,dv,rc,c,m,d,k,e] t now tab) ?_ ?_
 ·refine lp2 (λM (a b:Sl) w5=>∃A B,M=B∧On w5 w.w.heap.size a A∧On w5 w.w.heap.size b B∧B≤A∧Nat.gcd A B=Nat.gcd x y∧sz A≤8192∧sz B≤8192∧Xt1 t w3 w5∧Eg w5 p [g,po,nu,ra,ro,dv,rc,c,m,d,k,e] t now tab) B ⟨A,B,rfl,hA,hB,hle,hg,lA,lB,Ext.refl _ _,hE3⟩ ?_;clear hA hB hle hg lA lB;rintro M a b w5 ⟨A,B,rfl,hA,hB,hle,hg,lA,lB,x5,hE5⟩;have nb:=hB.rd.len;rw [aA] at nb;rw [nb];refine ac (λh=>?_) (λh=>?_)
  ·have hM0:0<M:=by
    rcases Nat.eq_zero_or_pos M with h'|h'
    ·subst h';simp [sz,az] at h
    ·exact h'
   refine j2 (λ(a b:Sl) w11=>∃A B,B<M∧On w11 w.w.heap.size a A∧On w11 w.w.heap.size b B∧B≤A∧Nat.gcd A B=Nat.gcd x y∧sz A≤8192∧sz B≤8192∧Xt1 t w3 w11∧Eg w11 p [g,po,nu,ra,ro,dv,rc,c,m,d,k,e] t now tab) ?_ ?_
   ·refine cl0 (lead_Find hA.nt hB.nt hle om) ?_;rintro _ _ _ _ _ w6 e6 ⟨P,Q,R,S,N,rfl,rfl,rfl,rfl,rfl,lP,lQ,lR,lS,lN,c',d',hEu⟩;intro w7 e7 w8 e8;have e58:=(e6.trans e7).trans e8;have hA:=On.ext hA e58;have hB:=On.ext hB e58;have hE8:=hE5.ext e58;have x8:=x5.trans e58.any;have z8:w.w.heap.size≤w8.w.heap.size:=Nat.le_trans e13.size x8.size;refine ac (λhN=>?_) (λhN=>?_)
    ·have hN:0<N:=by
      have:(0:Int)<N:=hN;omega
     refine c2 (lead_Row_Apply hA.nt hB.nt lP lQ lR lS om om hEu) ?_;rintro s2 s3 w9 e9 ⟨h2,h3⟩;have f1:=hEu.lt hN;have f2:=hEu.le.2 hN;have k1:=aq f2;have k2:=aq (Nat.le_of_lt f1);exact⟨c',d',om,h2.less z8,h3.less z8,Nat.le_of_lt f1,by rw [hEu.gcd];exact hg,om,om,x8.trans e9.any,hE8.ext e9⟩
    ·refine hE8.down λq1 E1=>E1.down λq2 E2=>E2.down λq3 E3=>E3.down λq4 E4=>E4.down λq5 E5=>?_
     refine t3 E5.tz (sI E5 hA.nt hB.nt om om h0 h1) ?_;rintro s4 s5 er w10 x10 ⟨-,h5,-,E10⟩;rw [if_neg om] at h5;have hlt:A%M<M:=Nat.mod_lt _ hM0;have k2:=aq (Nat.le_of_lt hlt);exact⟨M,A%M,hlt,hB.extT E5.tz x10,h5.less z8,Nat.le_of_lt hlt,by rw [←hg,Nat.gcd_comm M,←Nat.gcd_rec,Nat.gcd_comm],lB,om,x8.trans x10,hE8.re x10 E10⟩
   rintro a b w11 ⟨A',B',hlt,rest⟩;exact⟨B',hlt,A',B',rfl,rest⟩
  ·have:M=0:=kz.1 om;subst this;rw [Nat.gcd_zero_right] at hg;rw [←hg];exact⟨hA,x5,hE5⟩
 rintro a w12 ⟨h12,x12,hE12⟩;exact rt1 (c:=.slice) _ (e13.any.trans x12) ⟨h12.at,hE12.at⟩
end
end
section
variable {a b:Sl} {x y:Nat}
theorem Tn.tabC{w:TW}{t:Nat}{m a b:Int}{tab:List Int}(h:Tn w t m a b tab){i:Nat}{x:Int}(hi:tab[i]?=some x){K:Int→Prop}(hK:Hc w (((⟨t,0,none⟩:Addr).add 3).add i) (.int .i64 x)→K x):ldc (.int .i64) w (((⟨t,0,none⟩:Addr).add 3).add i) K:=by
 have hc:w.w.cell? (((⟨t,0,none⟩:Addr).add 3).add i)=some (.int .i64 x):=by
  rw [Addr.add_mk,Addr.add_mk,show 0+3+i=i+3 by omega,h.cell];simp [hi]
 exact⟨x,hc,hK ⟨hc,by rw [Addr.add_mk,Addr.add_mk];exact h.V⟩⟩
section
variable {w:TW} {p:Option Addr} {g po nu ra ro dv rc c m d k e t:Nat} {now:Int} {tab:List Int}
theorem acA(hE:Eg w p [g,po,nu,ra,ro,dv,rc,c,m,d,k,e] t now tab)(ha:Nt w a x)(hb:Nt w b y)(hx:sz x≤8192)(hy:sz y≤8192)(h0:0≤now)(h1:now≤1000000000000000000):
  Ct Pg F.bJ [.pointer p,a.v,b.v] w (λk=>k=t) [.one .slice] λ(s:Sl) w'=>On w' w.w.heap.size s (Nat.gcd x y)∧Eg w' p [g,po,nu,ra,ro,dv,rc,c,m,d,k,e] t now tab:=by
 refine Ct.bJ ?_;unfold Sh.bJ;have hE0:=hE.here.drew;have ha0:=ha.here.drew;have hb0:=hb.here.drew;refine j1 (λ(_:Bool) w3=>Ext aa w.here.drew w3) ?_ ?_
 ·obtain⟨la,hla,-⟩:=ha0;obtain⟨lb,hlb,-⟩:=hb0;refine hE0.downC λq1 E1 h1 _=>E1.downC λq2 E2 h2 _=>E2.downC λq3 E3 h3 _=>E3.downC λq4 E4 h4 _=>E4.downC λq5 E5 h5 _=>E5.downC λq6 E6 h6 _=>E6.downC λq7 E7 h7 _=>E7.downC λq8 E8 h8 _=>E8.downC λq9 E9 h9 _=>E9.downC λq10 E10 h10 _=>E10.downC λq11 E11 h11 _=>E11.downC λq12 E12 h12 _ =>  ?_
  have hq:q12=some ⟨t,0,none⟩:=E12.1;subst hq;obtain⟨_,_,hTab,_,m5,d5,hT⟩:=E12;obtain⟨r0,r1,r2,r3,r4,r5,r6,r7,r8,r9,r10,htab,-⟩:=hTab;rw [htab] at hT hE0;refine ah (hT.tabC (i:=5) rfl λh13=>?_);refine c1 (api_Nat_Len hla) ?_;rintro _ w1 e1 rfl;refine iF (.cons (h13.ext e1) (.cons (h12.ext e1) (.cons (h11.ext e1) (.cons (h10.ext e1) (.cons (h9.ext e1) (.cons (h8.ext e1) (.cons (h7.ext e1) (.cons (h6.ext e1) (.cons (h5.ext e1) (.cons (h4.ext e1) (.cons (h3.ext e1) (.cons (h2.ext e1) (.cons (h1.ext e1) (.nil _)))))))))))))) ?_;refine ac (λ_=>?_) (λ_=>e1);have hE1:=hE0.ext e1
  refine hE1.downC λuq1 uE1 uh1 _=>uE1.downC λuq2 uE2 uh2 _=>uE2.downC λuq3 uE3 uh3 _=>uE3.downC λuq4 uE4 uh4 _=>uE4.downC λuq5 uE5 uh5 _=>uE5.downC λuq6 uE6 uh6 _=>uE6.downC λuq7 uE7 uh7 _=>uE7.downC λuq8 uE8 uh8 _=>uE8.downC λuq9 uE9 uh9 _=>uE9.downC λuq10 uE10 uh10 _=>uE10.downC λuq11 uE11 uh11 _=>uE11.downC λuq12 uE12 uh12 _ =>  ?_
  have hq:uq12=some ⟨t,0,none⟩:=uE12.1;subst hq;obtain⟨_,_,_,_,m6,d6,hT6⟩:=uE12;refine ah (hT6.tabC (i:=5) rfl λu13=>?_);refine c1 (api_Nat_Len (hlb.ext e1)) ?_;rintro _ w2 e2 rfl;refine iF (.cons (u13.ext e2) (.cons (uh12.ext e2) (.cons (uh11.ext e2) (.cons (uh10.ext e2) (.cons (uh9.ext e2) (.cons (uh8.ext e2) (.cons (uh7.ext e2) (.cons (uh6.ext e2) (.cons (uh5.ext e2) (.cons (uh4.ext e2) (.cons (uh3.ext e2) (.cons (uh2.ext e2) (.cons (uh1.ext e2) (.cons ((h13.ext e1).ext e2) (.cons ((h12.ext e1).ext e2) (.cons ((h11.ext e1).ext e2) (.cons ((h10.ext e1).ext e2) (.cons ((h9.ext e1).ext e2) (.cons ((h8.ext e1).ext e2) (.cons ((h7.ext e1).ext e2) (.cons ((h6.ext e1).ext e2) (.cons ((h5.ext e1).ext e2) (.cons ((h4.ext e1).ext e2) (.cons ((h3.ext e1).ext e2) (.cons ((h2.ext e1).ext e2) (.cons ((h1.ext e1).ext e2) (.nil _))))))))))))))))))))))))))) ?_;exact e1.trans e2
 rintro z w3 e3;have ee:Ext aa w.here w3:=(Ext.refl _ _).drew.trans e3;have hE3:=hE0.ext e3;have ha3:=ha0.ext e3;have hb3:=hb0.ext e3;refine aG (λ_=>?_) (λ_=>?_)
 ·refine t1 hE3.tz (yo hE3 ha3 hb3 hx hy h0 h1) ?_;rintro s w4 x4 ⟨g1,g2⟩;exact rt1 (c:=.slice) _ (ee.any.trans x4) ⟨(g1.less ee.size).at,g2.at⟩
 ·refine c1 (sv hE3.gl ha3 hb3 hx hy) ?_;intro s w4 e4 g1;exact rt1 (c:=.slice) _ (ee.trans e4).any ⟨(g1.less ee.size).at,(hE3.ext e4).at⟩
theorem abj(hE:Eg w p [g,po,nu,ra,ro,dv,rc,c,m,d,k,e] t now tab)(ha:Nt w a x)(hb:Nt w b y)(hx:sz x≤1)(hy:sz y≤1):
  Ct Pg F.bJ [.pointer p,a.v,b.v] w (λk=>k=t) [.one .slice] λ(s:Sl) w'=>On w' w.w.heap.size s (Nat.gcd x y)∧Eg w' p [g,po,nu,ra,ro,dv,rc,c,m,d,k,e] t now tab:=by
 refine Ct.bJ ?_;unfold Sh.bJ;have hE0:=hE.here.drew;have ha0:=ha.here.drew;have hb0:=hb.here.drew;refine j1 (λ(z:Bool) w3=>z=false∧Ext aa w.here.drew w3) ?_ ?_
 ·obtain⟨la,hla,rfl⟩:=ha0;refine hE0.downC λq1 E1 h1 _=>E1.downC λq2 E2 h2 _=>E2.downC λq3 E3 h3 _=>E3.downC λq4 E4 h4 _=>E4.downC λq5 E5 h5 _=>E5.downC λq6 E6 h6 _=>E6.downC λq7 E7 h7 _=>E7.downC λq8 E8 h8 _=>E8.downC λq9 E9 h9 _=>E9.downC λq10 E10 h10 _=>E10.downC λq11 E11 h11 _=>E11.downC λq12 E12 h12 _ =>  ?_
  have hq:q12=some ⟨t,0,none⟩:=E12.1;subst hq;obtain⟨_,_,hTab,_,m5,d5,hT⟩:=E12;obtain⟨r0,r1,r2,r3,r4,r5,r6,r7,r8,r9,r10,htab,k0,k1,k2,k3,k4,k5,-⟩:=hTab;rw [htab] at hT hE0;refine ah (hT.tabC (i:=5) rfl λh13=>?_);refine c1 (api_Nat_Len hla) ?_;rintro _ w1 e1 rfl;refine iF (.cons (h13.ext e1) (.cons (h12.ext e1) (.cons (h11.ext e1) (.cons (h10.ext e1) (.cons (h9.ext e1) (.cons (h8.ext e1) (.cons (h7.ext e1) (.cons (h6.ext e1) (.cons (h5.ext e1) (.cons (h4.ext e1) (.cons (h3.ext e1) (.cons (h2.ext e1) (.cons (h1.ext e1) (.nil _)))))))))))))) ?_;exact ap (decide_eq_false om) ⟨rfl,e1⟩
 rintro z w3 ⟨rfl,e3⟩;have ee:Ext aa w.here w3:=(Ext.refl _ _).drew.trans e3;have hE3:=hE0.ext e3;have ha3:=ha0.ext e3;have hb3:=hb0.ext e3;refine ap rfl ?_;refine c1 (sv hE3.gl ha3 hb3 om om) ?_;intro s w4 e4 g1;exact rt1 (c:=.slice) _ (ee.trans e4).any ⟨(g1.less ee.size).at,(hE3.ext e4).at⟩
end
def qI(ZZ:Nat):Prop:=∀{w:TW} {p:Option Addr} {g po nu ra ro dv rc c m d k e t:Nat} {now:Int} {tab:List Int} {a b:Sl} {x y:Nat},Eg w p [g,po,nu,ra,ro,dv,rc,c,m,d,k,e] t now tab→Nt w a x→Nt w b y→sz x≤ZZ→sz y≤ZZ→0≤now→now≤1000000000000000000→
 Ct Pg F.bJ [.pointer p,a.v,b.v] w (λk=>k=t) [.one .slice] λ(s:Sl) w'=>On w' w.w.heap.size s (Nat.gcd x y)∧Eg w' p [g,po,nu,ra,ro,dv,rc,c,m,d,k,e] t now tab
theorem yQ:qI 8192:=λhE ha hb hx hy h0 h1=>acA hE ha hb hx hy h0 h1
theorem wQ:qI 1:=λhE ha hb hx hy _ _=>abj hE ha hb hx hy
end
section
variable {ZZ:Nat} {QQ:Nat→Nat→Prop}
theorem pv(f:Nat→Nat→Nat)(z:Nat)(xs:List Nat){j:Nat}(hj:j<xs.length):(xs.take (j+1)).foldl f z=f ((xs.take j).foldl f z) (xs.getD j 0):=by
 rw [List.take_succ_eq_append_getElem hj,List.foldl_append];simp [hj]
theorem ac2(x y:Nat):sz (Nat.gcd x y)≤max (sz x) (sz y):=by
 rcases Nat.eq_zero_or_pos x with h|h
 ·subst h;rw [Nat.gcd_zero_left];omega
 ·have:=aq (Nat.gcd_le_left y h);omega
def tn(xs:List Nat):Nat:=xs.foldl Nat.gcd 0
def ti(xs:List Nat):Nat:=xs.foldl Nat.lcm 1
theorem oH:∀(xs:List Nat),xs.foldl Nat.lcm 0=0
 | []=>rfl
 | x::xs=>by rw [List.foldl_cons,Nat.lcm_zero_left];exact oH xs
theorem ado(o a:Nat):o*(a/Nat.gcd o a)=Nat.lcm o a:=by
 rw [Nat.lcm,Nat.mul_div_assoc _ (Nat.gcd_dvd_right o a)]
section
variable {w:TW} {p:Option Addr} {g po nu ra ro dv rc c m d k e t:Nat} {now:Int} {tab:List Int} {l:Sl} {xs:List Nat}
theorem vM{ZZ:Nat}(h2:qI ZZ)(hE:Eg w p [g,po,nu,ra,ro,dv,rc,c,m,d,k,e] t now tab)(hl:Rs w l xs)(hx:∀i,sz (xs.getD i 0)≤ZZ)(hn:xs.length≤1099511627776)(h0:0≤now)(h1:now≤1000000000000000000):
  Ct Pg F.cP [.pointer p,l.v] w (λk=>k=t) [.one .slice] λ(s:Sl) w'=>On w' w.w.heap.size s (tn xs)∧Eg w' p [g,po,nu,ra,ro,dv,rc,c,m,d,k,e] t now tab:=by
 refine Ct.cP ?_;unfold Sh.cP;have hE:=hE.here;have hl:=hl.here;have nl:=hl.len;rw [nl];refine j1 (λ(s:Sl) w3=>On w3 w.w.heap.size s (tn xs)∧Xt1 t w.here w3∧Eg w3 p [g,po,nu,ra,ro,dv,rc,c,m,d,k,e] t now tab) ?_ ?_
 ·refine lp2 (λM (s:Sl) (i:Int) w1=>∃j:Nat,i=j∧M=xs.length-j∧j≤xs.length∧On w1 w.w.heap.size s ((xs.take j).foldl Nat.gcd 0)∧sz ((xs.take j).foldl Nat.gcd 0)≤ZZ∧Xt1 t w.here w1∧Eg w1 p [g,po,nu,ra,ro,dv,rc,c,m,d,k,e] t now tab) xs.length ⟨0,rfl,rfl,om,On.nil _ _,by simp [sz,az],Ext.refl _ _,hE⟩ ?_;rintro M s i w1 ⟨j,rfl,rfl,hj,hs,hsz,x1,hE1⟩;refine ac (λh=>?_) (λh=>?_)
  ·have hj1:j<xs.length:=om;refine (hl.extT hE.tz x1).idx rfl hj1 λu hu=>?_
   refine t1 hE1.tz (h2 hE1 hs.nt hu hsz (hx j) h0 h1) ?_;rintro s2 w2 x2 ⟨g1,g2⟩;have k1:=ac2 ((xs.take j).foldl Nat.gcd 0) (xs.getD j 0);have k2:=hx j;refine ab om om ⟨xs.length-(j+1),om,j+1,om,rfl,om,?_,?_,x1.trans x2,g2⟩
   ·rw [pv _ _ _ hj1];exact g1.less x1.size
   ·rw [pv _ _ _ hj1];omega
  ·have:j=xs.length:=om;subst this;rw [List.take_length] at hs;exact⟨hs,x1,hE1⟩
 rintro s w3 ⟨h3,x3,hE3⟩;exact rt1 (c:=.slice) _ x3 ⟨h3.at,hE3.at⟩
theorem acB(hE:Eg w p [g,po,nu,ra,ro,dv,rc,c,m,d,k,e] t now tab)(hl:Rs w l xs)(hx:∀i,sz (xs.getD i 0)≤8192)(hn:xs.length≤1099511627776)(h0:0≤now)(h1:now≤1000000000000000000):
  Ct Pg F.cP [.pointer p,l.v] w (λk=>k=t) [.one .slice] λ(s:Sl) w'=>On w' w.w.heap.size s (tn xs)∧Eg w' p [g,po,nu,ra,ro,dv,rc,c,m,d,k,e] t now tab:=
 vM yQ hE hl hx hn h0 h1
theorem abl(hT2:qI ZZ)(hDO:mB QQ)(hQ:∀x' y',sz x'≤ZZ→sz y'≤ZZ→QQ x' y')(hZ1:1≤ZZ)(hZZ:ZZ≤8192)(hE:Eg w p [g,po,nu,ra,ro,dv,rc,c,m,d,k,e] t now tab)(hl:Rs w l xs)(hx:∀i,i<xs.length→sz (xs.getD i 0)≤ZZ)(hS:∀j,j≤xs.length→sz ((xs.take j).foldl Nat.lcm 1)≤ZZ)(hn:xs.length≤16)(h0:0≤now)(h1:now≤1000000000000000000):
  Ct Pg F.eS [.pointer p,l.v] w (λk=>k=t) [.one .slice] λ(s:Sl) w'=>On w' w.w.heap.size s (ti xs)∧Eg w' p [g,po,nu,ra,ro,dv,rc,c,m,d,k,e] t now tab:=by
 refine Ct.eS ?_;unfold Sh.eS;have hE:=hE.here;have hl:=hl.here;have nl:=hl.len;rw [nl];refine c1 (limb_One (y:=1) dcd) λs w1 e1 hs1=>?_
 have l0:sz 1≤1:=cQ dcd;refine j1 (λ(s:Sl) w3=>On w3 w.w.heap.size s (ti xs)∧Xt1 t w.here w3∧Eg w3 p [g,po,nu,ra,ro,dv,rc,c,m,d,k,e] t now tab) ?_ ?_
 ·refine lp2 (λM (s:Sl) (i:Int) w1=>∃j:Nat,i=j∧M=xs.length-j∧j≤xs.length∧On w1 w.w.heap.size s ((xs.take j).foldl Nat.lcm 1)∧Xt1 t w.here w1∧Eg w1 p [g,po,nu,ra,ro,dv,rc,c,m,d,k,e] t now tab) xs.length ⟨0,rfl,rfl,om,hs1,e1.any,hE.ext e1⟩ ?_;rintro M s i w1 ⟨j,rfl,rfl,hj,hs,x1,hE1⟩;refine ac (λh=>?_) (λh=>?_)
  ·have hj1:j<xs.length:=om;have hxj:=hx j hj1;obtain⟨o,ho⟩:∃o,(xs.take j).foldl Nat.lcm 1=o:=⟨_,rfl⟩;have hsz:=hS j hj;rw [ho] at hs hsz;have hstep:=pv Nat.lcm 1 xs hj1;rw [ho] at hstep;refine (hl.extT hE.tz x1).idx rfl hj1 λu hu=>?_
   obtain⟨a,hae⟩:∃a,xs.getD j 0=a:=⟨_,rfl⟩;rw [hae] at hu hxj hstep;refine c1 (dS hu) ?_;rintro _ w3 e3 rfl;have x3:=x1.trans e3.any;have hE3:=hE1.ext e3;refine ac (λha0=>?_) (λha0=>?_)
   ·subst ha0;refine rt1 (c:=.slice) Sl.nil x3 ⟨?_,hE3.at⟩
    have:ti xs=0:=by
     rw [ti,←List.take_append_drop (j+1) xs,List.foldl_append,hstep,Nat.lcm_zero_right];exact oH _
    rw [this];exact On.nil _ _
   ·have hE3d:=hE3.drew;have hs3:On w3.drew w.w.heap.size s o:=Ow.drew (On.ext hs e3);have hu3:=(hu.ext e3).drew;refine hE3d.downC λq1 E1 a1 b1=>E1.downC λq2 E2 a2 b2=>E2.downC λq3 E3 a3 b3=>E3.downC λq4 E4 a4 b4=>E4.downC λq5 E5 a5 b5=>?_
    refine t1 hE3d.tz (hT2 hE3d hs3.nt hu3 hsz hxj h0 h1) ?_;rintro s1 w4 x4 ⟨hg,hE4⟩;have a1:=a1.extT x4 b1;have a2:=a2.extT x4 b2;have a3:=a3.extT x4 b3;have a4:=a4.extT x4 b4;have a5:=a5.extT x4 b5;refine iF (.cons a5 (.cons a4 (.cons a3 (.cons a2 (.cons a1 (.nil _)))))) ?_;have hs4:=hs3.extT hE3d.tz x4;have hu4:=hu3.extT hE3d.tz x4
    have E5':Eg w4 q5 [dv,rc,c,m,d,k,e] t now tab:=by
     obtain⟨_,_,_,_,mm,dd,hT⟩:=hE4;exact E5.set x4 hT
    have kg:sz (Nat.gcd o a)≤sz a:=aq (Nat.gcd_le_right _ (Nat.pos_of_ne_zero ha0));refine t3 E5'.tz (hDO E5' hu4 hg.nt (hQ _ _ hxj om) h0 h1) ?_;rintro s2 _ _ w5 x5 ⟨hq,-,-,E5''⟩;refine iF (.cons (a4.extT x5 b4) (.cons (a3.extT x5 b3) (.cons (a2.extT x5 b2) (.cons (a1.extT x5 b1) (.nil _))))) ?_;have hs5:=hs4.extT hE4.tz x5;have hE5:=hE4.re x5 E5'';have kq:sz (a/Nat.gcd o a)≤sz a:=iA;have km:=dt o (a/Nat.gcd o a);refine hE5.down λq1 E1=>E1.down λq2 E2=>E2.down λq3 E3=>E3.down λq4 E4=>E4.down λq5 E5=>E5.down λq6 E6=>E6.down λq7 E7=>E7.down λq8 E8=>?_
    refine t1 E8.tz (kZ E8 hs5.nt hq.nt om om h0 om) ?_;rintro s4 w6 x6 ⟨hm,E8'⟩;have xx:Xt1 t w.here w6:=(x3.drew.trans x4).trans (x5.trans x6);rw [ado] at hm km;refine ab om om ⟨xs.length-(j+1),om,j+1,om,rfl,om,?_,xx,hE5.re x6 E8'⟩;rw [hstep];exact hm.less (Nat.le_trans x3.size (Nat.le_trans x4.size x5.size))
  ·have:j=xs.length:=om;subst this;rw [List.take_length] at hs;exact⟨hs,x1,hE1⟩
 rintro s w3 ⟨h3,x3,hE3⟩;exact rt1 (c:=.slice) _ x3 ⟨h3.at,hE3.at⟩
end
def yD(ZZ:Nat):Prop:=∀{w:TW} {p:Option Addr} {g po nu ra ro dv rc c m d k e t:Nat} {now:Int} {tab:List Int} {l:Sl} {xs:List Nat},Eg w p [g,po,nu,ra,ro,dv,rc,c,m,d,k,e] t now tab→Rs w l xs→(∀i,sz (xs.getD i 0)≤ZZ)→xs.length≤1099511627776→0≤now→now≤1000000000000000000→
 Ct Pg F.cP [.pointer p,l.v] w (λk=>k=t) [.one .slice] λ(s:Sl) w'=>On w' w.w.heap.size s (tn xs)∧Eg w' p [g,po,nu,ra,ro,dv,rc,c,m,d,k,e] t now tab
def ab0(ZZ:Nat):Prop:=∀{w:TW} {p:Option Addr} {g po nu ra ro dv rc c m d k e t:Nat} {now:Int} {tab:List Int} {l:Sl} {xs:List Nat},Eg w p [g,po,nu,ra,ro,dv,rc,c,m,d,k,e] t now tab→Rs w l xs→(∀i,i<xs.length→sz (xs.getD i 0)≤ZZ)→(∀j,j≤xs.length→sz ((xs.take j).foldl Nat.lcm 1)≤ZZ)→xs.length≤16→0≤now→now≤1000000000000000000→
 Ct Pg F.eS [.pointer p,l.v] w (λk=>k=t) [.one .slice] λ(s:Sl) w'=>On w' w.w.heap.size s (ti xs)∧Eg w' p [g,po,nu,ra,ro,dv,rc,c,m,d,k,e] t now tab
theorem aab(h2:qI ZZ):yD ZZ:=λhE hl hx hn h0 h1=>vM h2 hE hl hx hn h0 h1
theorem adn(hT2:qI ZZ)(hDO:mB QQ)(hQ:∀x' y',sz x'≤ZZ→sz y'≤ZZ→QQ x' y')(hZ1:1≤ZZ)(hZZ:ZZ≤8192):ab0 ZZ:=λhE hl hx hS hn h0 h1=>abl hT2 hDO hQ hZ1 hZZ hE hl hx hS hn h0 h1
end
end Go.Proofs.YtpbimnlggalnfaaGreatDoor.Zg
