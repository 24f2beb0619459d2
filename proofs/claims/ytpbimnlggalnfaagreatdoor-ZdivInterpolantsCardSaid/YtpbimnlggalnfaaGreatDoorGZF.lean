/- A part of the proofs of this seat's laws. -/
import Derived.Test.YtpbimnlggalnfaaGreatDoorGZE
set_option linter.unusedVariables false
set_option linter.unusedSimpArgs false
set_option linter.unnecessarySimpa false
namespace Go.Proofs.YtpbimnlggalnfaaGreatDoor.Zg
open Go.RowKit
section
variable {w:TW} {a:Sl} {x:Int}
theorem wK{b:Sl}{na nb:Bool}{y:Int}(ha:Zr w a na x)(hb:Zr w b nb y)(hx:dz x.natAbs≤274877906944)(hy:dz y.natAbs≤274877906944):Ct Pg F.dw [.agg #[a.v,.bool na],.agg #[b.v,.bool nb]] w aa [.one (.int .i64)] λ(r:Int) _=>r=if x=y then 0 else if x<y then -1 else 1:=by
 refine Ct.dw ?_;unfold Sh.dw;intro w1 e1 w2 e2;have e:=e1.trans e2;refine cl0 (oc (ha.here.ext e) (hb.here.ext e) hx hy) ?_;intro r r1 w3 e3 hr;obtain⟨hr,-⟩:=hr;have hr:Zr w3 r r1 (x-y):=hr;intro w4 e4 w5 e5;have hr5:=hr.ext (e4.trans e5);refine c1 (no hr5) ?_;rintro ok w6 e6 rfl;have hE:=((e.trans e3).trans (e4.trans e5)).trans e6;have hn:=hr.2;refine ac (λh=>?_) (λh=>?_)
 ·exact rt1 (c:=.int .i64) _ hE (by rw [if_pos om])
 ·rw [hn];refine ac (λh2=>?_) (λh2=>?_)
  ·exact rt1 (c:=.int .i64) _ hE (by rw [if_neg om,if_pos om])
  ·exact rt1 (c:=.int .i64) _ hE (by rw [if_neg om,if_neg om])
theorem xS{xs:Sl}{xn:Bool}{zs:List Int}(ha:Rq (dg B32) w a zs)(hx:Zr w xs xn x)(hl:zs.length≤7)(hz:hgt zs≤128)(hxb:bl x.natAbs≤64):Ct Pg F.dS [a.v,.agg #[xs.v,.bool xn]] w aa [.agg [.slice,.bool]] λ(s:Sl)(n:Bool) w'=>∃z,Zr w' s n z∧bl z.natAbs≤1000:=by
 refine Ct.dS ?_;unfold Sh.dS;have na:=ha.len;intro w1 e1 w2 e2 w3 e3;have e13:=(e1.trans e2).trans e3;have ha3:=ha.here.ext e13;have hx3:=hx.here.ext e13;have dzb:∀{q K:Nat},bl q≤K→K≤1000→dz q≤274877906944:=λh hK=>Nat.le_trans (iA (dN h)) om
 refine ab om om ?_;refine j4 (λ(_:Sl)(_:Bool)(o:Sl)(o1:Bool) w8=>(∃z,Zr w8 o o1 z∧bl z.natAbs≤1000)∧Ext aa w3 w8) ?_ ?_
 ·refine⟨λM (i:Int) (x2:Sl) (x3:Bool) (_:Sl) (_:Bool) (o:Sl) (o1:Bool) w4=>x2=xs∧x3=xn∧i=(M:Int)-1∧M≤zs.length∧(∃z,Zr w4 o o1 z∧bl z.natAbs≤129+66*(zs.length-M))∧Ext aa w3 w4,⟨zs.length,rfl,rfl,om,Nat.le_refl _,⟨0,⟨Dr.nil _,rfl⟩,by simp [em]⟩,Ext.refl _ _⟩,?_⟩;rintro M i x2 x3 _ _ o o1 w4 ⟨rfl,rfl,rfl,hM,⟨z,hz4,hzb⟩,e4⟩;refine ac (λh=>?_) (λh=>?_)
  ·have hM':0<M:=om;have ed:Ext aa w4 w4.drew:=(Ext.refl _ _).drew;refine (ha3.ext (e4.trans ed)).ixh (j:=M-1) om om λa1 tt hel hk=>ldp (hk _ (Ext.refl _ _)).2.1 (hk _ (Ext.refl _ _)).2.2 ?_
   have hMl:129+66*(zs.length-M)≤600:=om;refine cl0 (kG (hz4.ext ed) (hx3.ext (e4.trans ed)) (dzb hzb om) (dzb hxb om)) ?_;intro r r1 w5 e5 hr;obtain⟨hr,-⟩:=hr;have hr:Zr w5 r r1 (z*x):=hr;have hb1:bl (z*x).natAbs≤129+66*(zs.length-M)+64:=gt hzb hxb;have hb2:bl (zs.getD (M-1) 0).natAbs≤128:=bF hz _;refine i8 (hk _ e5).2.1 (hk _ e5).2.2 ?_;refine cl0 (mr hr (hel.ext e5).zr (dzb hb1 om) (dzb hb2 om)) ?_;intro r2 r3 w6 e6 hr2;obtain⟨hr2,-⟩:=hr2;have hr2:Zr w6 r2 r3 (z*x+zs.getD (M-1) 0):=hr2;intro w7 e7;refine ab om om ⟨M-1,om,rfl,rfl,om,om,⟨_,hr2.ext e7,Nat.le_trans (ln hb1 (Nat.le_trans hb2 om)) om⟩,e4.trans ((ed.trans e5).trans (e6.trans e7))⟩
  ·exact⟨⟨z,hz4,om⟩,e4⟩
 rintro _ _ o o1 w8 ⟨⟨z,h8,hb⟩,e8⟩;intro w9 e9;exact⟨(_,_,()),rfl,(e13.trans e8).trans e9,z,(h8.ext e9).at,hb⟩
end
section
variable {z:Int}
def Ed(w:TW)(X:Nat→Prop)(t:Sl × Bool)(z:Int):Prop:=El (dg B32) w t z∧(dg B32 z.natAbs≠[]→∀c,t.1.blk=some c→¬X c∧c<w.w.heap.size)
theorem Ed.extX{w w':TW}{X Y Z:Nat→Prop}{x:Sl × Bool}(h:Ed w X x z)(e:Ext Z w w')(hZ:∀c,Z c→X c)(hY:∀c,Y c→X c∨w.w.heap.size≤c):Ed w' Y x z:=
 ⟨⟨h.1.1.extN e λhn c hc h'=>(h.2 hn c hc).1 (hZ c h'),h.1.2⟩,λhn c hc=>⟨λh'=>(hY c h').elim (h.2 hn c hc).1 λh1=>by have:=(h.2 hn c hc).2;omega,Nat.lt_of_lt_of_le (h.2 hn c hc).2 e.size⟩⟩
def Tr(w:TW)(B:Nat)(e:TypeId)(s u:Sl)(xs ys:List Int):Prop:=
 ∃(ts vs:List (Sl × Bool)),Own w B e 2 s (ts.flatMap iv)∧Own w B e 2 u (vs.flatMap iv)∧(∀c,s.blk=some c→u.blk≠some c)∧ts.length=xs.length∧vs.length=ys.length∧(∀i (h:i<ts.length),Ed w (Xb s u) ts[i] (xs.getD i 0))∧∀i (h:i<vs.length),Ed w (Xb s u) vs[i] (ys.getD i 0)
section
variable {w w':TW} {B:Nat} {e:TypeId} {s u:Sl} {xs ys:List Int}
theorem Tr.nil(w:TW)(B:Nat)(e:TypeId):Tr w B e Sl.nil Sl.nil [] []:=⟨[],[],Own.nil2 w B _,Own.nil2 w B _,λc h=>by simp [Sl.blk] at h,rfl,rfl,λi hi=>absurd hi smp,λi hi=>absurd hi smp⟩
theorem Tr.swap(h:Tr w B e s u xs ys):Tr w B e u s ys xs:=by
 obtain⟨ts,vs,h1,h2,h3,h4,h5,h6,h7⟩:=h;have hx:∀{v:TW} {t:Sl × Bool} {z:Int},Ed v (Xb s u) t z→Ed v (Xb u s) t z:=λh=>⟨h.1,λhn c hc=>⟨λh'=>(h.2 hn c hc).1 h'.symm,(h.2 hn c hc).2⟩⟩
 exact⟨vs,ts,h2,h1,λc hc hs=>h3 c hs hc,h5,h4,λi hi=>hx (h7 i hi),λi hi=>hx (h6 i hi)⟩
theorem Tr.ext(h:Tr w B e s u xs ys)(x:Ext aa w w'):Tr w' B e s u xs ys:=by
 obtain⟨ts,vs,h1,h2,h3,h4,h5,h6,h7⟩:=h;exact⟨ts,vs,h1.ext x λ_ _ h=>h,h2.ext x λ_ _ h=>h,h3,h4,h5,λi hi=>(h6 i hi).extX x (λ_ h=>h.elim) λc hc=>.inl hc,λi hi=>(h7 i hi).extX x (λ_ h=>h.elim) λc hc=>.inl hc⟩
theorem Tr.lt_blk(h:Tr w B e s u xs ys):∀c,Xb s u c→B≤c∧c<w.w.heap.size:=by
 obtain⟨ts,vs,h1,h2,_⟩:=h;rintro c (hc|hc)
 ·exact h1.from_ c hc
 ·exact h2.from_ c hc
theorem Tr.rq(h:Tr w B e s u xs ys):Rq (dg B32) w s xs:=by
 obtain⟨ts,vs,h1,h2,h3,h4,h5,h6,h7⟩:=h;exact⟨ts,h1.rdv,h4,λi hi=>(h6 i hi).1⟩
theorem Tr.push{v:Sl}{b:Bool}(h:Tr w B e s u xs ys)(hB:B≤w.w.heap.size)(hn:xs.length+1≤1099511627776)(hz:Zr w v b z)(hf:∀c,v.blk=some c→¬Xb s u c){K:Sl→TW→Prop}(hK:∀s' w',Tr w' B e s' u (xs++[z]) ys→Ext (λc=>s.blk=some c) w w'→K s' w'):nwb w [v.v,.bool b] e λb w'=>apd w' e 2 32 s ⟨some ⟨b,0,none⟩,1,1⟩ K:=by
 obtain⟨ts,vs,h1,h2,h3,h4,h5,h6,h7⟩:=h;refine wN h1 hB om λs' w' h' x' hb'=>hK s' w' ?_ x'
 have hZ:∀c,s.blk=some c→Xb s u c:=λc hc=>.inl hc
 have hY:∀c,Xb s' u c→Xb s u c∨w.w.heap.size≤c:=λc hc=>hc.elim (λh=>(hb' c h).imp .inl id) λh=>.inl (.inr h)
 have hv:Ed w (Xb s u) (v,b) z:=⟨hz,λhne c hc=>⟨hf c hc,hz.1.lt_blk hne c hc⟩⟩;refine⟨ts++[(v,b)],vs,h',h2.ext x' λc hc h9=>h3 c h9 hc,λc hc hu=>?_,by simp [h4],h5,λi hi=>?_,λi hi=>(h7 i hi).extX x' hZ hY⟩
 ·have:=(h2.from_ c hu).2;exact (hb' c hc).elim (λh=>h3 c h hu) λh=>om
 simp only [List.length_append,List.length_singleton] at hi;rw [nZ];rcases Nat.lt_or_ge i ts.length with hlt|hge
 ·rw [List.getElem_append_left hlt,if_neg om];exact (h6 i hlt).extX x' hZ hY
 ·have:i=ts.length:=om;subst this;rw [List.getElem_append_right (Nat.le_refl _),if_pos h4];simp only [Nat.sub_self,List.getElem_singleton];exact hv.extX x' hZ hY
end
theorem aas{w:TW}{s u:Sl}{m n:Bool}{x y:Int}(hs:Zr w s m x)(hu:Zr w u n y){e:TypeId}{K:Nat→TW→Prop}(hK:∀c w',Rq (dg B32) w' ⟨some ⟨c,0,none⟩,2,2⟩ [x,y]→Ext aa w w'→K c w'):nwb w [s.v,.bool m,u.v,.bool n] e K:=
 xX (ts:=[(s,m),(u,n)]) (n:=2) rfl dcd λc w' hr e'=>hK c w' ⟨_,hr,rfl,λi hi=>by
  match i,hi with
  | 0,_=>exact (hs.ext e').el
  | 1,_=>exact (hu.ext e').el⟩ e'
theorem xe{xs ys:List Int}{n j D T Y:Nat}(hD:∀i,bl (dnz xs i n).natAbs≤D)(hT:∀i,bl ((eg xs i n).getD j 0).natAbs≤T)(hY:∀i,bl (ys.getD i 0).natAbs≤Y):∀m,bl (irs xs ys n j m).1.natAbs≤T+Y+1+(D+1)*m∧bl (irs xs ys n j m).2.natAbs≤1+D*m
 | 0=>by simp only [irs];exact⟨by simp [em],Nat.le_trans (dp (k:=1) dcd) (Nat.le_add_right _ _)⟩
 | m+1=>by
  obtain⟨h1,h2⟩:=xe hD hT hY m;have e0:(D+1)*m=D*m+m:=by rw [Nat.add_mul,Nat.one_mul]
  have e1:(D+1)*(m+1)=D*m+m+D+1:=by rw [Nat.mul_add,e0,Nat.mul_one];omega
  have e2:D*(m+1)=D*m+D:=by rw [Nat.mul_add,Nat.mul_one]
  unfold irs;simp only;rw [e1,e2];rw [e0] at h1;exact⟨Nat.le_trans (ln (n:=T+Y+1+(D*m+m)+D) (gt h1 (hD m)) (Nat.le_trans (gt (gt (hT m) (hY m)) h2) om)) om,Nat.le_trans (gt h2 (hD m)) om⟩
theorem lp6{c1 c2 c3 c4 c5 c6:CK}{body:Tel [c1,c2,c3,c4,c5,c6] (TW→(Tel [c1,c2,c3,c4,c5,c6] (TW→Prop))→Prop)}{x1:CV c1}{x2:CV c2}{x3:CV c3}{x4:CV c4}{x5:CV c5}{x6:CV c6}{w:TW}(I:Nat→CV c1→CV c2→CV c3→CV c4→CV c5→CV c6→TW→Prop)(m:Nat)(h0:I m x1 x2 x3 x4 x5 x6 w)(hs:∀m x1 x2 x3 x4 x5 x6 w,I m x1 x2 x3 x4 x5 x6 w→body x1 x2 x3 x4 x5 x6 w (λy1 y2 y3 y4 y5 y6 w'=>∃m',m'<m∧I m' y1 y2 y3 y4 y5 y6 w')):Lp [c1,c2,c3,c4,c5,c6] body x1 x2 x3 x4 x5 x6 w:=⟨I,⟨m,h0⟩,hs⟩
set_option maxHeartbeats 2000000 in
theorem pj{w:TW}{x y:Sl}{xs ys:List Int}{N:Nat}(hx:Rb w x xs N)(hy:Rb w y ys N)(hN:N≤1048576)(hl:xs.length≤7)(hl2:ys.length≤7)(hbx:∀k,bl (xg xs k).natAbs≤64)(hby:∀k,bl (ys.getD k 0).natAbs≤1000):
  Ct Pg F.bp [x.v,y.v] w aa [.one .slice,.one (.int .i64)] λ(s:Sl)(er:Int) w'=>(xs.length≠ys.length→er=1∧s=Sl.nil)∧(xs.length=ys.length→¬Dst xs→er=6∧s=Sl.nil)∧
   (xs.length=ys.length→Dst xs→((∀j,(irs xs ys xs.length 0 xs.length).2 ∣ (irs xs ys xs.length j xs.length).1)→er=0∧∃r,Rq (dg B32) w' s r∧Nm r∧r.length≤8∧hgt r≤4700∧∀j,r.getD j 0=(irs xs ys xs.length j xs.length).1/(irs xs ys xs.length 0 xs.length).2)∧((¬∀j,(irs xs ys xs.length 0 xs.length).2 ∣ (irs xs ys xs.length j xs.length).1)→er=7∧s=Sl.nil)):=by
 refine Ct.bp ?_;unfold Sh.bp;have nx:=hx.ri.len;have ny:=hy.ri.len;rw [nx,ny];by_cases hlen:¬xs.length=ys.length
 ·refine aZ (by simp;omega) ?_;exact rt2 (c:=.slice) (d:=.int .i64) Sl.nil 1 (Ext.refl _ _) ⟨λ_=>⟨rfl,rfl⟩,λh=>absurd h hlen,λh=>absurd h hlen⟩
 rw [Decidable.not_not] at hlen;refine aw (by simp;omega) ?_;have dzb:∀{q K:Nat},bl q≤K→K≤100000→dz q≤1048576:=λh hK=>Nat.le_trans (iA (dN h)) om
 have dzx:∀k,dz (xs.getD k 0).natAbs≤1048576:=λk=>dzb (hbx k) dcd
 obtain⟨ts,tx1,tx2,tx3⟩:=hx.here;obtain⟨us,ty1,ty2,ty3⟩:=hy.here;refine j2 (λ(xs1:Sl)(ys1:Sl) w11=>Dst xs∧Rq (dg B32) w11 xs1 xs∧Rq (dg B32) w11 ys1 ys∧Ext aa w.here w11) ?_ ?_
 ·refine lp3 (λM (s:Sl) (u:Sl) (x1:Int) w1=>∃i:Nat,x1=i∧M=xs.length-i∧i≤xs.length∧Tr w1 w.here.w.heap.size T.ae s u (xs.take i) (ys.take i)∧(∀q k,k<q→q<i→xg xs q≠xg xs k)∧Ext aa w.here w1) xs.length ⟨0,rfl,om,om,Tr.nil _ _ _,λq k _ h=>(by omega),Ext.refl _ _⟩ ?_;rintro M s u x1 w1 ⟨i,rfl,rfl,hi,hTr,hd,e1⟩;refine ac (λh=>?_) (λh=>?_)
  ·have hi':i<xs.length:=om;refine (tx1.extN e1).at2 (j:=i) rfl om λa1 _ q0 q1=>ldp q0 q1 ?_
   obtain⟨zx1,zx2⟩:=tx3 i om;refine cl0 (ko (zx1.ext e1) om) ?_;intro r r1 w2 e2 hr;obtain⟨hr,hrf⟩:=hr;have hr:Zr w2 r r1 (xs.getD i 0):=hr;have e12:=e1.trans e2;refine (hTr.ext e2).push e12.size (by simp;omega) hr (λc hc h'=>?_) λs' w4 h4 x4=>?_
   ·have h1:=hrf c hc;have h2:=(hTr.lt_blk c h').2;have h1:w1.w.heap.size≤c:=h1;omega
   have e4:Ext aa w.here w4:=e12.own x4 λc hc=>(hTr.lt_blk c (.inl hc)).1
   refine (ty1.extN e4).at2 (j:=i) rfl om λa2 _ r0 r1=>ldp r0 r1 ?_
   obtain⟨zy1,zy2⟩:=ty3 i om;refine cl0 (ko (zy1.ext e4) om) ?_;intro r2 r3 w5 e5 hr2;obtain⟨hr2,hrf2⟩:=hr2;have hr2:Zr w5 r2 r3 (ys.getD i 0):=hr2;have e45:=e4.trans e5;refine (h4.ext e5).swap.push e45.size (by simp;omega) hr2 (λc hc h'=>?_) λu' w7 h7 x7=>?_
   ·have h1:=hrf2 c hc;have h2:=(h4.lt_blk c h'.symm).2;have h1:w4.w.heap.size≤c:=h1;omega
   have e7:Ext aa w.here w7:=e45.own x7 λc hc=>(h4.lt_blk c (.inr hc)).1
   have h7:=h7.swap;rw [←bC xs om,←bC ys om] at h7;have lt1:(xs.take (i+1)).length=i+1:=by simp;omega
   have gt1:∀k,k≤i→(xs.take (i+1)).getD k 0=xs.getD k 0:=λk hk=>by
    simp only [List.getD_eq_getElem?_getD,List.getElem?_take];rw [if_pos om]
   refine j0 (λw10=>(∀k,k<i→xg xs i≠xg xs k)∧Ext aa w7 w10) ?_ ?_
   ·refine lp1 (λM (x2:Int) w8=>∃k:Nat,x2=k∧M=i-k∧k≤i∧(∀q,q<k→xg xs i≠xg xs q)∧Ext aa w7 w8) i ⟨0,rfl,om,om,λq h=>(by omega),Ext.refl _ _⟩ ?_;rintro M x2 w8 ⟨k,rfl,rfl,hk,hd2,e8⟩;refine ac (λh2=>?_) (λh2=>?_)
    ·have ed:=e8.drew;have hrq:=h7.rq.ext ed;refine hrq.ix (j:=i) rfl om λa3 t3' hz1 _ q0 q1=>ldp q0 q1 ?_
     refine hrq.ix (j:=k) rfl om λa4 t4' hz2 _ r0 r1=>ldp r0 r1 ?_
     rw [gt1 i om] at hz1;rw [gt1 k om] at hz2;refine c1 (wK hz1.zr hz2.zr (by have:=dzx i;omega) (by have:=dzx k;omega)) ?_;rintro r w9 e9 rfl;have e89:=ed.trans e9;have hgi:xg xs i=xs.getD i 0:=rfl;have hgk:xg xs k=xs.getD k 0:=rfl;by_cases heq:xs.getD i 0=xs.getD k 0
     ·refine aZ (by rw [if_pos heq];rfl) ?_;exact rt2 (c:=.slice) (d:=.int .i64) Sl.nil 6 (e7.trans e89) ⟨λh=>absurd hlen h,λ_ _=>⟨rfl,rfl⟩,λ_ hD=>absurd (hgi.trans (heq.trans hgk.symm)) (hD i k om om)⟩
     ·refine aw (by rw [if_neg heq];split<;>rfl) ?_;refine ab om om ⟨i-(k+1),om,k+1,om,rfl,om,λq hq=>?_,e89⟩;by_cases h9:q=k
      ·rw [h9];exact heq
      ·exact hd2 q om
    ·exact⟨λq hq=>hd2 q om,e8⟩
   rintro w10 ⟨hd4,e10⟩;refine ab om om ⟨xs.length-(i+1),om,i+1,om,rfl,om,h7.ext e10,λq k hk hq=>?_,e7.trans e10⟩;by_cases h9:q=i
   ·subst h9;exact hd4 k hk
   ·exact hd q k hk om
  ·have hie:i=xs.length:=om;subst hie;have k1:=hTr.rq;have k2:=hTr.swap.rq;rw [List.take_of_length_le (Nat.le_refl _)] at k1;rw [List.take_of_length_le om] at k2;exact⟨λq k hk hq=>hd q k hk hq,k1,k2,e1⟩
 rintro xs1 ys1 w11 ⟨hD,hX,hY,e11⟩;have nX:=hX.len;refine cl0 (mJ (n:=1) dcd dcd) ?_;intro r5 r6 w12 e12 hr5;have hr5:Zr w12 r5 r6 1:=hr5.1;intro w13 e13 w14 e14;have e1114:=(e12.trans e13).trans e14;have hr5:=hr5.ext (e13.trans e14);have hX:=hX.ext e1114;have hY:=hY.ext e1114;have hdn:∀i,i<xs.length→dnz xs i xs.length≠0:=λi hi=>qx λk hk hne=>hD.ne hi hk hne
 have hdb:∀i k,k≤xs.length→bl (dnz xs i k).natAbs≤456:=λi k hk=>Nat.le_trans (tN hbx k) om
 have htl:∀i k,k≤xs.length→(eg xs i k).length≤8∧hgt (eg xs i k)≤470:=λi k hk=>⟨Nat.le_trans (mO hbx k).1 om,Nat.le_trans (mO hbx k).2 om⟩
 have hirs:∀j m,m≤xs.length→bl (irs xs ys xs.length j m).1.natAbs≤4700∧bl (irs xs ys xs.length j m).2.natAbs≤3200:=λj m hm=>by
  have:=xe (xs:=xs) (ys:=ys) (n:=xs.length) (j:=j) (D:=456) (T:=470) (Y:=1000) (λi=>hdb i _ (Nat.le_refl _)) (λi=>bF (htl i _ (Nat.le_refl _)).2 j) hby m;omega
 refine j3 (λ(sum:Sl)(den:Sl)(den1:Bool) w133=>∃S,Rq (dg B32) w133 sum S∧Nm S∧S.length≤8∧(∀j,S.getD j 0=(irs xs ys xs.length j xs.length).1)∧Zr w133 den den1 (irs xs ys xs.length 0 xs.length).2∧Ext aa w14 w133) ?_ ?_
 ·refine lp4 (λM (sum:Sl) (i1:Int) (den:Sl) (den1:Bool) w15=>∃(i:Nat) (S:List Int),i1=i∧M=xs.length-i∧i≤xs.length∧Rq (dg B32) w15 sum S∧Nm S∧S.length≤8∧(∀j,S.getD j 0=(irs xs ys xs.length j i).1)∧Zr w15 den den1 (irs xs ys xs.length 0 i).2∧Ext aa w14 w15) xs.length ⟨0,[],rfl,om,om,(Oq.nil _ _ 0 T.ae).rq,λz h=>by simp at h,smp,λj=>by simp [irs],hr5,Ext.refl _ _⟩ ?_;rintro M sum i1 den den1 w15 ⟨i,S,rfl,rfl,hi,hS,nS,lS,gS,hden,e15⟩;refine ac (λh=>?_) (λh=>?_)
  ·have hi':i<xs.length:=om;have ed:Ext aa w15 w15.drew:=(Ext.refl _ _).drew;obtain⟨E,hE⟩:∃E,(irs xs ys xs.length 0 i).2=E:=⟨_,rfl⟩;rw [hE] at hden;have hEb:bl E.natAbs≤3200:=by rw [←hE];exact (hirs 0 i hi).2
   obtain⟨yi,hyi⟩:∃yi,ys.getD i 0=yi:=⟨_,rfl⟩;have hyb:bl yi.natAbs≤1000:=by rw [←hyi];exact hby i
   have inner:∀{v:TW} {num0 r:Sl} {rn:Bool} {C2:Sl→Int→Sl→Bool→TW→Prop},Ext aa w15 v→Rq (dg B32) v num0 (ag [yi])→Zr v r rn 1→(∀s q b v',Ext aa w15 v'→(∃S,Rq (dg B32) v' s S∧Nm S∧S.length≤8∧∀j,S.getD j 0=(irs xs ys xs.length j (i+1)).1)→Zr v' q b (irs xs ys xs.length 0 (i+1)).2→C2 s ((i+1:Nat):Int) q b v')→
     Jn [.slice,.slice,.bool,.slice,.bool] (λJ3=>Lp [.slice,.int .i64,.slice,.bool,.slice,.bool] (λ(num:Sl)(k1:Int)(den2:Sl)(den3:Bool)(d:Sl)(d1:Bool) w21 C3=>cond (decide ((k1:Int)<(xs1.n:Int))) ( Jn [.slice,.slice,.bool,.slice,.bool] (λJ4=>cond ((k1:Int) != ((i:Nat):Int)) ( ixa xs1 k1 2 λa5=>ldc (.slice) w21 (a5.add 0) λ(v10:Sl)=>ldc (.bool) w21 (a5.add 1) λ(v11:Bool)=>cl Pg F.aL [.agg #[v10.v,.bool v11]] w21 [.agg [.slice,.bool]] λ(r9:Sl)(r10:Bool) w22=>cl Pg F.ao [.int .i64 1] w22 [.agg [.slice,.bool]] λ(r11:Sl)(r12:Bool) w23=>nwb w23 [r9.v,.bool r10,r11.v,.bool r12] T.ae λb3 w24=>cl Pg F.aJ [num.v,.slice (some ⟨b3,0,none⟩) 2 2] w24 [.one .slice] λ(s3:Sl) w25=>ixa xs1 ((i:Nat):Int) 2 λa6=>ldc (.slice) w25.drew (a6.add 0) λ(v12:Sl)=>ldc (.bool) w25.drew (a6.add 1) λ(v13:Bool)=>ixa xs1 k1 2 λa7=>ldc (.slice) w25.drew (a7.add 0) λ(v14:Sl)=>ldc (.bool) w25.drew (a7.add 1) λ(v15:Bool)=>cl Pg F.aK [.agg #[v12.v,.bool v13],.agg #[v14.v,.bool v15]] w25.drew [.agg [.slice,.bool]] λ(r13:Sl)(r14:Bool) w26=>cl Pg F.an [.agg #[d.v,.bool d1],.agg #[r13.v,.bool r14]] w26 [.agg [.slice,.bool]] λ(r15:Sl)(r16:Bool) w27=>nwv w27 λw28=>J4 s3 den2 den3 r15 r16 w28) ( J4 num den2 den3 d d1 w21)) λ(num1:Sl)(den4:Sl)(den5:Bool)(d2:Sl)(d3:Bool) w29=>bnd (wi (k1+1)) λn2=>C3 num1 n2 den4 den5 d2 d3 w29) ( J3 num den2 den3 d d1 w21)) num0 0 den den1 r rn v) λ(num2:Sl)(den6:Sl)(den7:Bool)(d4:Sl)(d5:Bool) w30=>cl Pg F.ai [sum.v,.agg #[d4.v,.bool d5]] w30.drew [.one .slice] λ(s4:Sl) w31=>cl Pg F.ai [num2.v,.agg #[den6.v,.bool den7]] w31 [.one .slice] λ(s5:Sl) w32=>cl Pg F.aE [s4.v,s5.v] w32 [.one .slice] λ(s6:Sl) w33=>cl Pg F.an [.agg #[den6.v,.bool den7],.agg #[d4.v,.bool d5]] w33 [.agg [.slice,.bool]] λ(r17:Sl)(r18:Bool) w34=>nwv w34 λw35=>bnd (wi (((i:Nat):Int)+1)) λn3=>C2 s6 n3 r17 r18 w35:=by
    intro v num0 r rn C2 ev hnum hr hC
    have hpm1:∀(L:List Int) (k':Nat),(∀j,L.getD j 0=(eg xs i k').getD j 0*yi)→∀j,(pmt L [-(xg xs k'),1]).getD j 0=(pmt (eg xs i k') [-(xg xs k'),1]).getD j 0*yi:=λL k' hL j=>by
     rw [jr,jr,kv (a:=L) (a':=(eg xs i k').map (yi*·)) (λj=>by rw [hL,fe smp,Int.mul_comm]) (λj=>rfl),sM,Int.mul_comm]
    have hDv:Zr v den den1 E:=hden.ext ev;refine j5 (λ(num2:Sl)(d6:Sl)(d7:Bool)(d4:Sl)(d5:Bool) w30=>d6=den∧d7=den1∧(∃L,Rq (dg B32) w30 num2 L∧L.length≤8∧∀j,L.getD j 0=(eg xs i xs.length).getD j 0*yi)∧Zr w30 d4 d5 (dnz xs i xs.length)∧Ext aa v w30) ?_ ?_
    ·refine lp6 (λM (num:Sl) (k1:Int) (d2:Sl) (d3:Bool) (d:Sl) (d1:Bool) w21=>d2=den∧d3=den1∧∃k':Nat,k1=k'∧M=xs.length-k'∧k'≤xs.length∧(∃L,Rq (dg B32) w21 num L∧L.length≤1+k'∧∀j,L.getD j 0=(eg xs i k').getD j 0*yi)∧Zr w21 d d1 (dnz xs i k')∧Ext aa v w21) xs.length ⟨rfl,rfl,0,rfl,om,om,⟨_,hnum,au _,λj=>by rw [cC,eg];cases j<;>simp⟩,hr,Ext.refl _ _⟩ ?_;rintro M num k1 d2 d3 d d1 w21 ⟨rfl,rfl,k',rfl,rfl,hk,⟨L,hL,lL,gL⟩,hd,e21⟩;rw [nX];refine ac (λh2=>?_) (λh2=>?_)
     ·have hk':k'<xs.length:=om;refine j5 (λ(num2:Sl)(d6:Sl)(d7:Bool)(d4:Sl)(d5:Bool) w29=>d6=d2∧d7=d3∧(∃L,Rq (dg B32) w29 num2 L∧L.length≤1+(k'+1)∧∀j,L.getD j 0=(eg xs i (k'+1)).getD j 0*yi)∧Zr w29 d4 d5 (dnz xs i (k'+1))∧Ext aa v w29) ?_ ?_
      ·by_cases hki:k'=i
       ·refine aw (by simp;omega) ?_;exact⟨rfl,rfl,⟨L,hL,om,by rw [eg,if_pos hki];exact gL⟩,by rw [dnz,if_pos hki];exact hd,e21⟩
       ·refine aZ (by simp;omega) ?_;have x21:Ext aa w14 w21:=(e15.trans ev).trans e21;refine (hX.ext x21).ix (j:=k') rfl hk' λa5 t5 hz5 _ q0 q1=>ldp q0 q1 ?_
        refine cl0 (oe hz5.zr) ?_;intro r9 r10 w22 e22 hr9;have hr9:Zr w22 r9 r10 (-(xg xs k')):=hr9;refine cl0 (mJ (n:=1) dcd dcd) ?_;intro r11 r12 w23 e23 hr11;have hr11:Zr w23 r11 r12 1:=hr11.1;refine aas (hr9.ext e23) hr11 λb3 w24 h24 e24=>?_
        have e2124:=(e22.trans e23).trans e24
        have gl2:hgt [-(xg xs k'),1]≤65:=bW λj=>by
         match j with
         | 0=>simp only [List.getD_cons_zero,Int.natAbs_neg];exact Nat.le_trans (hbx k') dcd
         | 1=>exact Nat.le_trans (dp (k:=1) smp) dcd
         | j+2=>simp [em]
        have gLh:hgt L≤1470:=bW λj=>by rw [gL];exact gt (bF (htl i k' hk).2 j) hyb
        refine c1 (ob (b:=⟨some ⟨b3,0,none⟩,2,2⟩) (hL.ext e2124) h24 ⟨om,smp,om⟩) λs3 w25 e25 h25=>?_
        have e2125:=(e2124.trans e25).drew;have hXX:=hX.ext (x21.trans e2125);refine hXX.ix (j:=i) rfl hi' λa6 t6 hz6 _ q0 q1=>ldp q0 q1 ?_
        refine hXX.ix (j:=k') rfl hk' λa7 t7 hz7 _ q0 q1=>ldp q0 q1 ?_
        refine cl0 (oc hz6.zr hz7.zr (by have:=dzx i;omega) (by have:=dzx k';omega)) ?_;intro r13 r14 w26 e26 hr13;obtain⟨hr13,-⟩:=hr13;have hr13:Zr w26 r13 r14 (xg xs i-xg xs k'):=hr13;have e2126:=e2125.trans e26;have bsub:bl (xg xs i-xg xs k').natAbs≤65:=mZ (hbx i) (hbx k');refine cl0 (kG (hd.ext e2126) hr13 (by have:=dzb (hdb i k' hk) dcd;omega) (by have:=dzb bsub dcd;omega)) ?_;intro r15 r16 w27 e27 hr15;obtain⟨hr15,-⟩:=hr15;have hr15:Zr w27 r15 r16 (dnz xs i k'*(xg xs i-xg xs k')):=hr15;intro w28 e28;have e2528:Ext aa w25 w28:=(((Ext.refl _ _).drew.trans e26).trans e27).trans e28;refine⟨rfl,rfl,⟨_,h25.ext e2528,Nat.le_trans (sK _ _ _) om,?_⟩,?_,e21.trans (e2126.trans (e27.trans e28))⟩
        ·rw [eg,if_neg hki];exact hpm1 L k' gL
        ·rw [dnz,if_neg hki];exact hr15.ext e28
      rintro num1 d4 d5 d6 d7 w29 ⟨rfl,rfl,hL',hd',e29⟩;exact ab om om ⟨xs.length-(k'+1),om,rfl,rfl,k'+1,om,rfl,om,hL',hd',e29⟩
     ·have hke:k'=xs.length:=om;subst hke;exact⟨rfl,rfl,⟨L,hL,om,gL⟩,hd,e21⟩
    rintro num2 d6 d7 d4 d5 w30 ⟨rfl,rfl,⟨L,hL,lL,gL⟩,hd,e30⟩;have e30d:=e30.drew;have ed30:Ext aa w30 w30.drew:=(Ext.refl _ _).drew;have hdbi:=hdb i xs.length (Nat.le_refl _);have gSh:hgt S≤4700:=bW λj=>by rw [gS];exact (hirs j i hi).1
    have gLh:hgt L≤1470:=bW λj=>by rw [gL];exact gt (bF (htl i _ (Nat.le_refl _)).2 j) hyb
    refine c1 (il (hS.ext (ev.trans e30d)) (hd.ext ed30) om om om) λs4 w31 e31 h31=>?_
    have hD31:=hDv.ext (e30d.trans e31);refine c1 (il (hL.ext (ed30.trans e31)) hD31 om om om) λs5 w32 e32 h32=>?_
    have k1:=iN (dnz xs i xs.length) S;have k2:=iN E L;have k3:hgt (Sc (dnz xs i xs.length) S)≤5156:=iK gSh hdbi;have k4:hgt (Sc E L)≤4670:=iK gLh hEb;refine c1 (rh (h31.ext e32) h32 om om om om) λs6 w33 e33 h33=>?_
    have e3033:=((ed30.trans e31).trans e32).trans e33;refine cl0 (kG (hD31.ext (e32.trans e33)) (hd.ext e3033) (by have:=dzb hEb dcd;omega) (by have:=dzb hdbi dcd;omega)) ?_;intro r17 r18 w34 e34 hr17;obtain⟨hr17,-⟩:=hr17;have hr17:Zr w34 r17 r18 (E*dnz xs i xs.length):=hr17;intro w35 e35;refine ak (y:=((i+1:Nat):Int)) ((aI om om).trans om) (hC s6 r17 r18 w35 ((ev.trans e30).trans (e3033.trans (e34.trans e35))) ⟨_,h33.ext (e34.trans e35),Nm.trim _,Nat.le_trans (xG _ _) om,λj=>?_⟩ ?_)
    ·rw [oN,jp,jp,gS,gL,irs,oG (j:=j) (j':=0),hE,hyi]
    ·rw [irs,hE];exact hr17.ext e35
   have fin:∀s q b v',Ext aa w15 v'→(∃S,Rq (dg B32) v' s S∧Nm S∧S.length≤8∧∀j,S.getD j 0=(irs xs ys xs.length j (i+1)).1)→Zr v' q b (irs xs ys xs.length 0 (i+1)).2→∃m',m'<xs.length-i∧∃(i':Nat) (S:List Int),((i+1:Nat):Int)=i'∧m'=xs.length-i'∧i'≤xs.length∧Rq (dg B32) v' s S∧Nm S∧S.length≤8∧(∀j,S.getD j 0=(irs xs ys xs.length j i').1)∧Zr v' q b (irs xs ys xs.length 0 i').2∧Ext aa w14 v':=by
    rintro s q b v' ev ⟨S,k1,k2,k3,k4⟩ hq;exact⟨xs.length-(i+1),om,i+1,S,rfl,rfl,om,k1,k2,k3,k4,hq,e15.trans ev⟩
   have one:∀{v:TW} {KK:Sl→Bool→TW→Prop},(∀r rn v',Ext aa v v'→Zr v' r rn 1→KK r rn v')→cl Pg F.ao [.int .i64 1] v [.agg [.slice,.bool]] KK:=λhK=>cl0 (mJ (n:=1) dcd dcd) λr rn v' e h=>hK r rn v' e h.1
   refine (hY.ext (e15.trans ed)).ixh (j:=i) rfl om λa4 tt hel hk=>ldp (hk _ (Ext.refl _ _)).2.1 (hk _ (Ext.refl _ _)).2.2 ?_
   rw [hyi] at hel
   have nrm:∀{v:TW} {b:Nat} {KK:Sl→TW→Prop},Rq (dg B32) v ⟨some ⟨b,0,none⟩,1,1⟩ [yi]→(∀s v',Ext aa v v'→Rq (dg B32) v' s (ag [yi])→KK s v')→cl Pg F.aq [.slice (some ⟨b,0,none⟩) 1 1] v [.one .slice] KK:=by
    intro v b KK hb hK;refine c1 (iH (a:=⟨some ⟨b,0,none⟩,1,1⟩) hb smp) ?_;rintro _ v' e' rfl;exact hK _ v' e' (hb.trim1.ext e')
   have hzt:Zr w15.drew tt.1 tt.2 yi:=hel.zr;refine⟨?_,?_,?_⟩
   ·refine lM hzt λb2 w16 h16 e16=>⟨?_,?_⟩
    ·refine one λr rn w17 e17 hr=>?_
     intro w18 e18 w19 e19;have e1719:=e18.trans e19;refine nrm (h16.ext (e17.trans e1719)) λs2 w20 e20 h20=>?_
     exact inner ((((ed.trans e16).trans e17).trans e1719).trans e20) h20 (hr.ext (e1719.trans e20)) fin
    ·intro w36 e36;refine one λr rn w37 e37 hr=>?_
     intro w38 e38;refine nrm (h16.ext ((e36.trans e37).trans e38)) λs2 w20 e20 h20=>?_
     exact inner (((((ed.trans e16).trans e36).trans e37).trans e38).trans e20) h20 (hr.ext (e38.trans e20)) fin
   ·refine one λr rn w55 e55 hr=>?_
    refine i8 (hk _ e55).2.1 (hk _ e55).2.2 ⟨?_,?_⟩
    ·refine lM (hzt.ext e55) λb2 w56 h56 e56=>?_
     intro w57 e57 w58 e58;have e5658:=e57.trans e58;refine nrm (h56.ext e5658) λs2 w20 e20 h20=>?_
     exact inner ((((ed.trans e55).trans e56).trans e5658).trans e20) h20 (hr.ext ((e56.trans e5658).trans e20)) fin
    ·intro w75 e75;have e5575:=e55.trans e75;refine i8 (hk _ e5575).2.1 (hk _ e5575).2.2 ?_;refine lM (hzt.ext e5575) λb2 w76 h76 e76=>?_
     intro w77 e77;refine nrm (h76.ext e77) λs2 w20 e20 h20=>?_
     exact inner ((((ed.trans e5575).trans e76).trans e77).trans e20) h20 (hr.ext (((e75.trans e76).trans e77).trans e20)) fin
   ·intro w94 e94;refine i8 (hk _ e94).2.1 (hk _ e94).2.2 ⟨?_,?_⟩
    ·refine lM (hzt.ext e94) λb2 w95 h95 e95=>?_
     refine one λr rn w96 e96 hr=>?_
     intro w97 e97;refine nrm (h95.ext (e96.trans e97)) λs2 w20 e20 h20=>?_
     exact inner (((((ed.trans e94).trans e95).trans e96).trans e97).trans e20) h20 (hr.ext (e97.trans e20)) fin
    ·refine one λr rn w114 e114 hr=>?_
     have e14':=e94.trans e114;refine i8 (hk _ e14').2.1 (hk _ e14').2.2 ?_;refine lM (hzt.ext e14') λb2 w115 h115 e115=>?_
     intro w116 e116;refine nrm (h115.ext e116) λs2 w20 e20 h20=>?_
     exact inner ((((ed.trans e14').trans e115).trans e116).trans e20) h20 (hr.ext ((e115.trans e116).trans e20)) fin
  ·have hie:i=xs.length:=om;subst hie;exact⟨S,hS,nS,lS,gS,hden,e15⟩
 rintro sum den den1 w133 ⟨S,hS,nS,lS,gS,hden,e133⟩;have hE0:(irs xs ys xs.length 0 xs.length).2≠0:=qK hdn;obtain⟨E,hE⟩:∃E,(irs xs ys xs.length 0 xs.length).2=E:=⟨_,rfl⟩;have hEb:=(hirs 0 xs.length (Nat.le_refl _)).2;rw [hE] at hden hE0 hEb ⊢;refine c2 (qd hS hden hE0 om (bW λj=>by rw [gS];exact Nat.le_trans (hirs j xs.length (Nat.le_refl _)).1 dcd) om) ?_;rintro s32 ok w134 e134 ⟨ho1,ho2⟩;have e:=((e11.trans e1114).trans e133).trans e134;have hiff:(∀j,E ∣ (irs xs ys xs.length j xs.length).1)↔∀j,E ∣ S.getD j 0:=⟨λh j=>by rw [gS];exact h j,λh j=>by rw [←gS];exact h j⟩;by_cases hd:∀j,E ∣ S.getD j 0
 ·obtain⟨rfl,h60⟩:=ho1 hd;refine aw rfl ?_;refine rt2 (c:=.slice) (d:=.int .i64) s32 0 e ⟨λh=>absurd hlen h,λ_ h=>absurd hD h,λ_ _=>⟨λ_=>⟨rfl,_,h60.at,?_,by rw [List.length_map];exact lS,bW λj=>?_,λj=>?_⟩,λh=>absurd (hiff.2 hd) h⟩⟩
  ·refine vP λhne=>?_
   have hSne:S≠[]:=λe=>hne (by rw [e];rfl)
   rw [List.length_map,fe smp];obtain⟨q,hq⟩:=hd (S.length-1);have:=nS.get hSne;intro e;rw [hq,Int.mul_ediv_cancel_left _ hE0] at e;rw [hq,e] at this;simp at this
  ·rw [fe smp];obtain⟨q,hq⟩:=hd j;rw [hq,Int.mul_ediv_cancel_left _ hE0];have h5:=(hirs j xs.length (Nat.le_refl _)).1;rw [←gS,hq,Int.natAbs_mul] at h5;exact Nat.le_trans (pi (Nat.le_mul_of_pos_left _ om)) h5
  ·rw [fe smp,gS]
 ·have h9:=ho2 hd;subst h9;refine aZ rfl ?_;exact rt2 (c:=.slice) (d:=.int .i64) Sl.nil 7 e ⟨λh=>absurd hlen h,λ_ h=>absurd hD h,λ_ _=>⟨λh=>absurd (hiff.1 h) hd,λ_=>⟨rfl,rfl⟩⟩⟩
end
end Go.Proofs.YtpbimnlggalnfaaGreatDoor.Zg
