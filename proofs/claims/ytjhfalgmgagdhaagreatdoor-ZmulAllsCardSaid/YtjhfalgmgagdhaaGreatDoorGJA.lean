/- A part of the proofs of this seat's laws: words, lemmas or contracts of its functions. -/
import Derived.Test.YtjhfalgmgagdhaaGreatDoorGME
import Derived.Test.YtjhfalgmgagdhaaGreatDoorGMA
import Derived.Test.YtjhfalgmgagdhaaGreatDoorGP1
import Derived.Test.YtjhfalgmgagdhaaGreatDoorGA
import Derived.Test.YtjhfalgmgagdhaaGreatDoorGMB
import Derived.Test.YtjhfalgmgagdhaaGreatDoorGMD
import Derived.Test.YtjhfalgmgagdhaaGreatDoorGKA
import Derived.Test.YtjhfalgmgagdhaaGreatDoorGKE
import Derived.Test.YtjhfalgmgagdhaaGreatDoorGIA
import Derived.Test.YtjhfalgmgagdhaaGreatDoorGKC
import Derived.Test.YtjhfalgmgagdhaaGreatDoorGB
import Derived.Test.YtjhfalgmgagdhaaGreatDoorGIB
import Derived.Test.YtjhfalgmgagdhaaGreatDoorGK
import Derived.Test.YtjhfalgmgagdhaaGreatDoorGQ
import Derived.Test.YtjhfalgmgagdhaaGreatDoorGMC
import Derived.Test.YtjhfalgmgagdhaaGreatDoorGP
import Derived.Test.YtjhfalgmgagdhaaGreatDoorGP2
import Derived.Test.YtjhfalgmgagdhaaGreatDoorGP3
import Derived.Test.YtjhfalgmgagdhaaGreatDoorGP4
import Derived.Test.YtjhfalgmgagdhaaGreatDoorGP5
import Derived.Test.YtjhfalgmgagdhaaGreatDoorGS
import Derived.Test.YtjhfalgmgagdhaaGreatDoorGC
set_option linter.unusedVariables false
set_option linter.unusedSimpArgs false
set_option linter.unnecessarySimpa false
section
namespace Go.Proofs.YtjhfalgmgagdhaaGreatDoor.Zg
open Go.RowKit
abbrev Rw5:List VT:=[.agg [.int .u64,.int .u64,.int .u64,.int .u64,.int .i64]]
theorem lead_word {w:TW} {s:Sl} {x n:Nat} (h:Nt w s x) (hx:x<2^n) (hn:n≤1048576):Ct Pg F.lead_word [s.v,.int .i64 n] w none_ [.one (.int .u64)] fun (r:Int) _=>r=(x/2^(n-62):Nat)∧x/2^(n-62)<4611686018427387904:=by
 refine Ct.lead_word ?_
 unfold Sh.lead_word
 have hsz:sz x≤bl x/64+1:=sz_bl x
 have hbl:bl x≤n:=bl_pow hx
 refine bnd_wi (by omega) (by omega) (bnd_eq (y:=((n-62:Nat):Int)) (by split<;>omega) ?_)
 refine c1 (limb_Shr h.here (by omega)) fun s1 w1 e1 h1=>?_
 rw [show min (((n-62:Nat):Int)).toNat 1048576=n-62 by omega] at h1
 have hlt:x/2^(n-62)<4611686018427387904:=by
  refine (Nat.div_lt_iff_lt_mul (Nat.two_pow_pos _)).2 (Nat.lt_of_lt_of_le hx ?_)
  rw [show (4611686018427387904:Nat)=2^62 from rfl,←Nat.pow_add]
  exact Nat.pow_le_pow_right (by decide) (by omega)
 obtain ⟨z,hz⟩:∃z,x/2^(n-62)=z:=⟨_,rfl⟩
 rw [hz] at h1 hlt ⊢
 refine c1 (api_Zero h1.nt) ?_
 rintro _ w2 e2 rfl
 refine cnd_d (fun h0=>?_) (fun h0=>?_)
 ·subst h0
  exact rt1 (c:=.int .u64) 0 (e1.trans e2) ⟨rfl,hlt⟩
 ·have hzW:z<W64:=by rw [w64];omega
  have hg:(dg W64 z).getD 0 0=z:=by rw [dg_getD W2,Nat.pow_zero,Nat.div_one,Nat.mod_eq_of_lt hzW]
  have hl:0<(dg W64 z).length:=by
   rw [dg_len]
   have:=(not_congr (sz_zero (x:=z))).2 h0
   omega
  refine (h1.ext e2).rd.ix (j:=0) rfl hl ?_
  rw [hg]
  exact rt1 (c:=.int .u64) _ (e1.trans e2) ⟨rfl,hlt⟩
theorem lead_Row_quotient {w:TW} {P Q R S N x y:Nat} (hP:P<4611686018427387904) (hQ:Q<4611686018427387904) (hR:R<4611686018427387904) (hS:S<4611686018427387904) (hx:x<4611686018427387904) (hy:y<4611686018427387904):
  Ct Pg F.lead_Row_quotient [.agg #[.int .u64 P,.int .u64 Q,.int .u64 R,.int .u64 S,.int .i64 N],.int .u64 x,.int .u64 y] w none_ [.one (.int .u64),.one .bool] fun (r:Int) (ok:Bool) _=>ok=true→∃k lx mx ly my,r=(k:Nat)∧k<2147483648∧(N%2=0→lx=Q∧mx=P∧ly=R∧my=S)∧(N%2=1→lx=P∧mx=Q∧ly=S∧my=R)∧lx≤x∧ly<y∧(x-lx)/(y+my)=k∧(x+mx)/(y-ly)=k:=by
 refine Ct.lead_Row_quotient ?_
 unfold Sh.lead_Row_quotient
 intro w1 e1
 refine remN (x:=N) (y:=2) rfl rfl (by decide) ?_
 refine j4 (fun (a b c d:Int) w2=>∃lx mx ly my:Nat,a=lx∧b=mx∧c=ly∧d=my∧lx<4611686018427387904∧mx<4611686018427387904∧ly<4611686018427387904∧my<4611686018427387904∧(N%2=0→lx=Q∧mx=P∧ly=R∧my=S)∧(N%2=1→lx=P∧mx=Q∧ly=S∧my=R)∧Ext none_ w.here w2) ?_ ?_
 ·refine cnd_i (fun h=>?_) (fun h=>?_)
  ·simp only [beq_iff_eq] at h
   exact ⟨P,Q,S,R,rfl,rfl,rfl,rfl,hP,hQ,hS,hR,fun h'=>by omega,fun _=>⟨rfl,rfl,rfl,rfl⟩,e1.drew.drew⟩
  ·simp only [beq_eq_false_iff_ne,ne_eq] at h
   exact ⟨Q,P,R,S,rfl,rfl,rfl,rfl,hQ,hP,hR,hS,fun _=>⟨rfl,rfl,rfl,rfl⟩,fun h'=>by omega,e1.drew⟩
 rintro a b c d w2 ⟨lx,mx,ly,my,rfl,rfl,rfl,rfl,h1,h2,h3,h4,he,ho,e2⟩
 refine j1 (fun (z:Bool) w3=>w3=w2∧(z=false→lx≤x∧ly<y)) ?_ ?_
 ·refine cnd_d (fun h=>⟨rfl,fun h=>(by cases h)⟩) (fun h=>⟨rfl,fun h'=>?_⟩)
  rw [decide_eq_false_iff_not] at h'
  omega
 rintro z w3 ⟨rfl,hz⟩
 cases z with
 | true=>exact cnd_t rfl (rt2 (c:=.int .u64) (d:=.bool) 0 false e2 (fun h=>(by cases h)))
 | false=>
  obtain ⟨g1,g2⟩:=hz rfl
  refine cnd_f rfl ?_
  have w:=w64
  refine bnd_wu' (y:=x-lx) (by omega) (by omega) (bnd_wu' (y:=y+my) (by omega) (by omega) (divNu (x:=x-lx) (y:=y+my) rfl rfl (by omega) (by omega) ?_))
  refine bnd_wu' (y:=x+mx) (by omega) (by omega) (bnd_wu' (y:=y-ly) (by omega) (by omega) (divNu (x:=x+mx) (y:=y-ly) rfl rfl (by omega) (by omega) ?_))
  obtain ⟨k1,hk1⟩:∃k,(x-lx)/(y+my)=k:=⟨_,rfl⟩
  obtain ⟨k2,hk2⟩:∃k,(x+mx)/(y-ly)=k:=⟨_,rfl⟩
  rw [hk1,hk2]
  refine j2 (fun (a:Int) (b:Bool) w4=>a=k1∧(b=true→k1=k2∧k1<2147483648)∧Ext none_ w3 w4) ?_ ?_
  ·refine cnd_i (fun h=>?_) (fun h=>?_)
   ·simp only [beq_iff_eq] at h
    exact ⟨rfl,fun h'=>by rw [decide_eq_true_iff] at h';omega,(Ext.refl _ _).drew⟩
   ·exact ⟨rfl,fun h=>(by cases h),(Ext.refl _ _).drew⟩
  rintro a b w4 ⟨rfl,hb,e4⟩
  refine rt2 (c:=.int .u64) (d:=.bool) _ b (e2.trans e4) fun h=>?_
  obtain ⟨rfl,h5⟩:=hb h
  exact ⟨k1,lx,mx,ly,my,rfl,h5,he,ho,g1,g2,hk1,hk2⟩
theorem lead_Row_next {w:TW} {P Q R S N k:Nat} (hP:P≤1073741824) (hQ:Q≤1073741824) (hR:R<1073741824) (hS:S<1073741824) (hk:k<2147483648) (hN:N<9223372036854775807):
  Ct Pg F.lead_Row_next [.agg #[.int .u64 P,.int .u64 Q,.int .u64 R,.int .u64 S,.int .i64 N],.int .u64 k] w none_ Rw5 fun (a b c d n:Int) _=>a=R∧b=S∧c=(P+k*R:Nat)∧d=(Q+k*S:Nat)∧n=(N+1:Nat)∧P+k*R<4611686018427387904∧Q+k*S<4611686018427387904:=by
 refine Ct.lead_Row_next ?_
 unfold Sh.lead_Row_next
 intro w1 e1 w2 e2
 have k1:k*R≤2147483647*1073741823:=Nat.mul_le_mul (by omega) (by omega)
 have k2:k*S≤2147483647*1073741823:=Nat.mul_le_mul (by omega) (by omega)
 have w:=w64
 refine bnd_wu' (y:=k*R) (by rw [Int.natCast_mul]) (by omega) (bnd_wu' (y:=P+k*R) (by omega) (by omega) (bnd_wu' (y:=k*S) (by rw [Int.natCast_mul]) (by omega) (bnd_wu' (y:=Q+k*S) (by omega) (by omega) (bnd_wi (by omega) (by omega) ?_))))
 intro w3 e3
 exact ⟨(_,_,_,_,_,()),rfl,(e1.trans e2).trans e3,rfl,rfl,rfl,rfl,rfl,by omega,by omega⟩
end Go.Proofs.YtjhfalgmgagdhaaGreatDoor.Zg
end

section
namespace Go.Proofs.YtjhfalgmgagdhaaGreatDoor.Zg
open Go.RowKit
structure Lw (x0 y0 P Q R S N x y:Nat):Prop where
 ld:Ld x0 y0 P Q R S N x y
 p:P≤1073741824
 q:Q≤1073741824
 r:R<4611686018427387904
 s:S<4611686018427387904
 x:x<4611686018427387904
 y:N+y<4611686018427387904
theorem lead_words {w:TW} {x0 y0:Nat} (hx:x0<4611686018427387904) (hy:y0<4611686018427387904):Ct Pg F.lead_words [.int .u64 x0,.int .u64 y0] w none_ Rw5 fun (a b c d n:Int) _=>∃P Q R S N x y:Nat,a=P∧b=Q∧c=R∧d=S∧n=N∧Lw x0 y0 P Q R S N x y:=by
 refine Ct.lead_words ?_
 unfold Sh.lead_words
 generalize hL:(1073741824:Int)=L
 intro w1 e1 w2 e2 w3 e3
 refine ⟨fun (_ _ _ _ _ a b c d n:Int) w'=>(∃P Q R S N x y:Nat,a=P∧b=Q∧c=R∧d=S∧n=N∧Lw x0 y0 P Q R S N x y)∧Ext none_ w3 w',?_,?_⟩
 ·refine ⟨fun (m:Nat) (x1 y1 _ _ _ _ _ a b c d n:Int) w'=>∃P Q R S N x y:Nat,x1=x∧y1=y∧a=P∧b=Q∧c=R∧d=S∧n=N∧m=y∧Lw x0 y0 P Q R S N x y∧Ext none_ w3 w',⟨y0,1,0,0,1,0,x0,y0,rfl,rfl,rfl,rfl,rfl,rfl,rfl,rfl,⟨Ld.begin x0 y0,by decide,by decide,by decide,by decide,hx,by omega⟩,Ext.refl _ _⟩,?_⟩
  rintro m x1 y1 x2 x3 x4 x5 x6 a b c d n w4 ⟨P,Q,R,S,N,x,y,rfl,rfl,rfl,rfl,rfl,rfl,rfl,rfl,h,e4⟩
  refine ⟨fun (z:Bool) (_ _ _ _ _ a b c d n:Int) w'=>a=P∧b=Q∧c=R∧d=S∧n=N∧w'=w4∧(z=true→R<1073741824∧S<1073741824),?_,?_⟩
  ·refine cnd_d (fun h=>⟨rfl,rfl,rfl,rfl,rfl,rfl,fun h'=>?_⟩) (fun h=>⟨rfl,rfl,rfl,rfl,rfl,rfl,fun h'=>(by cases h')⟩)
   have h1:(R:Int)<L:=h
   have h2:(S:Int)<L:=of_decide_eq_true h'
   omega
  rintro z x8 x9 x10 x11 x12 _ _ _ _ _ w5 ⟨rfl,rfl,rfl,rfl,rfl,rfl,hz⟩
  cases z with
  | false=>exact cnd_f rfl ⟨⟨P,Q,R,S,N,x,m,rfl,rfl,rfl,rfl,rfl,h⟩,e4⟩
  | true=>
   obtain ⟨z1,z2⟩:=hz rfl
   obtain ⟨h1,h2,h3,h4,h5,h6,h7⟩:=h
   refine cnd_t rfl ?_
   refine c2 (lead_Row_quotient (by omega) (by omega) h4 h5 h6 (by omega)) ?_
   rintro r10 ok w6 e6 hok
   cases ok with
   | false=>exact cnd_t rfl ⟨⟨P,Q,R,S,N,x,m,rfl,rfl,rfl,rfl,rfl,h1,h2,h3,h4,h5,h6,h7⟩,e4.trans e6⟩
   | true=>
    obtain ⟨k,lx,mx,ly,my,rfl,g1,g2,g3,g4,g5,g6,g7⟩:=hok rfl
    obtain ⟨f1,f2,f3⟩:=h1.next g2 g3 g4 g5 g6 g7
    refine cnd_f rfl ?_
    have w:=w64
    refine bnd_wu' (y:=k*m) (by rw [Int.natCast_mul]) (by omega) (bnd_wu' (y:=x-k*m) (by omega) (by omega) ?_)
    refine cl0 (lead_Row_next (N:=N) h2 h3 z1 z2 g1 (by omega)) ?_
    rintro _ _ _ _ _ w7 e7 ⟨rfl,rfl,rfl,rfl,rfl,u1,u2⟩
    intro w8 e8
    exact ⟨x-k*m,f3,R,S,P+k*R,Q+k*S,N+1,m,x-k*m,rfl,rfl,rfl,rfl,rfl,rfl,rfl,rfl,⟨f1,by omega,by omega,u1,u2,by omega,by omega⟩,((e4.trans e6).trans e7).trans e8⟩
 rintro _ _ _ _ _ a b c d n w9 ⟨h,e9⟩ w10 e10
 exact ⟨(_,_,_,_,_,()),rfl,(((e1.trans e2).trans e3).trans e9).trans e10,h⟩
theorem lead_Find {w:TW} {s u:Sl} {x y:Nat} (hs:Nt w s x) (hu:Nt w u y) (hyx:y≤x) (hx:sz x≤16384):Ct Pg F.lead_Find [s.v,u.v] w none_ Rw5 fun (a b c d n:Int) _=>∃P Q R S N:Nat,a=P∧b=Q∧c=R∧d=S∧n=N∧P<4611686018427387904∧Q<4611686018427387904∧R<4611686018427387904∧S<4611686018427387904∧N<4611686018427387904∧∃c d,Eu x y N S Q R P c d:=by
 refine Ct.lead_Find ?_
 unfold Sh.lead_Find
 intro w1 e1
 have hs:=hs.here.ext e1
 have hu:=hu.here.ext e1
 have hb:=bl_sz x
 refine c1 (api_Bits hs (by omega)) ?_
 rintro _ w2 e2 rfl
 refine c1 (lead_word (n:=bl x) (hs.ext e2) (bl_lt x) (by omega)) ?_
 rintro _ w3 e3 ⟨rfl,l1⟩
 have e23:=e2.trans e3
 refine c1 (api_Bits (hs.ext e23) (by omega)) ?_
 rintro _ w4 e4 rfl
 have e24:=e23.trans e4
 refine c1 (lead_word (n:=bl x) (hu.ext e24) (Nat.lt_of_le_of_lt hyx (bl_lt x)) (by omega)) ?_
 rintro _ w5 e5 ⟨rfl,l2⟩
 refine cl0 (lead_words l1 l2) ?_
 rintro _ _ _ _ _ w6 e6 ⟨P,Q,R,S,N,xx,yy,rfl,rfl,rfl,rfl,rfl,h⟩
 intro w7 e7
 refine ⟨(_,_,_,_,_,()),rfl,(((e1.trans e24).trans e5).trans e6).trans e7,P,Q,R,S,N,rfl,rfl,rfl,rfl,rfl,?_,?_,h.r,h.s,?_,h.ld.2.2 x y _ rfl rfl⟩
 ·have:=h.p;omega
 ·have:=h.q;omega
 ·have:=h.y;omega
theorem lead_less {w:TW} {s u:Sl} {x y p q:Nat} (hs:Nt w s x) (hu:Nt w u y) (hp:p<W64) (hq:q<W64) (hx:sz x≤1048576) (hy:sz y≤1048576):Ct Pg F.lead_less [s.v,.int .u64 p,u.v,.int .u64 q] w none_ [.one .slice] fun (r:Sl) w'=>On w' w.w.heap.size r (x*p-y*q):=by
 refine Ct.lead_less ?_
 unfold Sh.lead_less
 refine c1 (limb_MulWord hs.here hp (by omega)) fun s1 w1 e1 h1=>?_
 have k1:=sz_mul x p
 have k2:=sz_word hp
 refine c2 (limb_SubMul h1.nt (hu.here.ext e1) hq (by omega) (by omega)) ?_
 rintro r _ w2 e2 ⟨-,h2⟩
 exact rt1 (c:=.slice) _ (e1.trans e2) (h2.less e1.size).at
theorem lead_Row_Apply {w:TW} {s u:Sl} {x y P Q R S N c d:Nat} (hs:Nt w s x) (hu:Nt w u y) (hP:P<4611686018427387904) (hQ:Q<4611686018427387904) (hR:R<4611686018427387904) (hS:S<4611686018427387904) (hx:sz x≤1048576) (hy:sz y≤1048576) (hE:Eu x y N S Q R P c d):
  Ct Pg F.lead_Row_Apply [.agg #[.int .u64 P,.int .u64 Q,.int .u64 R,.int .u64 S,.int .i64 N],s.v,u.v] w none_ [.one .slice,.one .slice] fun (a b:Sl) w'=>On w' w.w.heap.size a c∧On w' w.w.heap.size b d:=by
 refine Ct.lead_Row_Apply ?_
 unfold Sh.lead_Row_Apply
 intro w1 e1
 have hs:=(hs.here.ext e1).drew
 have hu:=(hu.here.ext e1).drew
 have w:=w64
 have hP:P<W64:=by omega
 have hQ:Q<W64:=by omega
 have hR:R<W64:=by omega
 have hS:S<W64:=by omega
 refine remN (x:=N) (y:=2) rfl rfl (by decide) ?_
 refine cnd_i (fun h=>?_) (fun h=>?_)
 ·simp only [beq_iff_eq] at h
  obtain ⟨g1,g2⟩:=hE.back.2 (by omega)
  refine c1 (lead_less hu hs hQ hP hy hx) fun s1 w2 e2 h2=>?_
  refine c1 (lead_less (hs.ext e2) (hu.ext e2) hR hS hx hy) fun s2 w3 e3 h3=>?_
  rw [show y*Q-x*P=c by rw [Nat.mul_comm y,Nat.mul_comm x];omega] at h2
  rw [show x*R-y*S=d by rw [Nat.mul_comm y,Nat.mul_comm x];omega] at h3
  exact rt2 (c:=.slice) (d:=.slice) _ _ ((e1.drew.trans e2).trans e3) ⟨((h2.ext e3).less e1.size).at,(h3.less (e1.drew.trans e2).size).at⟩
 ·simp only [beq_eq_false_iff_ne,ne_eq] at h
  obtain ⟨g1,g2⟩:=hE.back.1 (by omega)
  refine c1 (lead_less hs hu hP hQ hx hy) fun s1 w2 e2 h2=>?_
  refine c1 (lead_less (hu.ext e2) (hs.ext e2) hS hR hy hx) fun s2 w3 e3 h3=>?_
  rw [show x*P-y*Q=c by rw [Nat.mul_comm y,Nat.mul_comm x];omega] at h2
  rw [show y*S-x*R=d by rw [Nat.mul_comm y,Nat.mul_comm x];omega] at h3
  exact rt2 (c:=.slice) (d:=.slice) _ _ ((e1.drew.trans e2).trans e3) ⟨((h2.ext e3).less e1.size).at,(h3.less (e1.drew.trans e2).size).at⟩
end Go.Proofs.YtjhfalgmgagdhaaGreatDoor.Zg
end

section
namespace Go.Proofs.YtjhfalgmgagdhaaGreatDoor.Zg
open Go.RowKit
def Hc (w:TW) (a:Addr) (v:Value):Prop:=w.w.cell? a=some v∧¬w.V a.block
theorem Hc.ext {w w':TW} {a:Addr} {v:Value} (h:Hc w a v) (e:Ext none_ w w'):Hc w' a v:=
 have hb:=World.block_lt_of_cell? w.w _ h.1
 ⟨(World.cell?_of_block (e.block _ hb (fun h=>h) (.inr h.2))).trans h.1,fun hV=>(e.new _ hV).elim h.2 fun h'=>by omega⟩
theorem Hc.extT {w w':TW} {t:Nat} {a:Addr} {v:Value} (h:Hc w a v) (e:Xt1 t w w') (ht:a.block≠t):Hc w' a v:=
 have hb:=World.block_lt_of_cell? w.w _ h.1
 ⟨(World.cell?_of_block (e.block _ hb ht (.inr h.2))).trans h.1,fun hV=>(e.new _ hV).elim h.2 fun h'=>by omega⟩
def HcL (w:TW) (l:List (Addr × Value)):Prop:=∀y∈l,w.w.cell? y.1=some y.2
theorem HcL.nil (w:TW):HcL w []:=fun y h=>(by cases h)
theorem HcL.cons {w:TW} {a:Addr} {v:Value} {l:List (Addr × Value)} (h:Hc w a v) (hl:HcL w l):HcL w ((a,v)::l):=fun y hy=>by
 rcases List.mem_cons.1 hy with rfl|hy
 ·exact h.1
 ·exact hl y hy
theorem hldL {w:TW} {l:List (Addr × Value)} {K:Prop} (h:HcL w l) (hK:K):hld w l K:=by
 cases l with
 | nil=>exact hK
 | cons x xs=>exact ⟨h,hK⟩
theorem Eg.downC {w:TW} {p:Option Addr} {bs:List Nat} {b t:Nat} {now:Int} {tab:List Int} (h:Eg w p (b::bs) t now tab) {K:Addr→Option Addr→Prop} (hK:∀q,Eg w q bs t now tab→Hc w ⟨b,0,none⟩ (.pointer q)→b≠t→K ⟨b,0,none⟩ q):nck p fun a2=>ldc (.ptr) w a2 fun (v:Option Addr)=>K a2 v:=by
 obtain ⟨a,b1,c,g,m,d,h⟩:=h
 obtain ⟨rfl,hV,q,h3,h4⟩:=a
 exact nck_some ⟨q,h3,hK q ⟨h4,fun c hc=>b1 c (List.mem_cons_of_mem _ hc),c,g,m,d,h⟩ ⟨h3,hV⟩ (b1 b (List.mem_cons_self ..))⟩
section
variable {w:TW} {p:Option Addr} {g po nu ra ro dv rc c m d k e t:Nat} {now:Int} {tab:List Int}
end
end Go.Proofs.YtjhfalgmgagdhaaGreatDoor.Zg
end
