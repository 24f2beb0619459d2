/- A part of the proofs of this seat's laws. -/
import Derived.Test.YtpbimnlggalnfaaGreatDoorGMC
import Derived.Test.YtpbimnlggalnfaaGreatDoorGMB
import Derived.Test.YtpbimnlggalnfaaGreatDoorGKE
import Derived.Test.YtpbimnlggalnfaaGreatDoorGKA
import Derived.Test.YtpbimnlggalnfaaGreatDoorGP2
import Derived.Test.YtpbimnlggalnfaaGreatDoorGP
import Derived.Test.YtpbimnlggalnfaaGreatDoorGIA
set_option linter.unusedVariables false
set_option linter.unusedSimpArgs false
set_option linter.unnecessarySimpa false
namespace Go.Proofs.YtpbimnlggalnfaaGreatDoor.Zg
open Go.RowKit
section
variable {w0:TW} {tab:List Int} {a b m n:Int} {x:Sl} {C:Nat}
theorem Dec.eq{p q:Prop}[Decidable p][Decidable q](h:p↔q):decide p=decide q:=by by_cases hp:p<;>simp [hp,←h]
theorem Eg.young{w w':TW}{p:Option Addr}{bs:List Nat}{t:Nat}{now now0:Int}(h:Eg w p bs t now tab)(h0:Eg w0 p bs t now0 tab){X:Nat→Prop}(x:Ext X w w')(hX:∀b,X b→w0.w.heap.size≤b):Eg w' p bs t now tab:=by
 obtain⟨a,b,c,g,m,d,h⟩:=h;obtain⟨a0,-,-,g0,m0,d0,h0⟩:=h0;refine⟨a.extX x λb hb hx=>?_,b,c,g.extX x λhx=>?_,m,d,h.extX x λhx=>?_⟩
 ·have:=hX _ hx;have:=a0.lt b hb;omega
 ·have:=hX _ hx;have:=g0.lt;omega
 ·have:=hX _ hx;have:=h0.lt;omega
theorem table_may{w:TW}:Ct Pg F.jh [.int .i64 n] w aa [.one .bool] λ(b:Bool) _=>b=decide (0≤n∧n≤16384):=by
 refine Ct.jh ?_;unfold Sh.jh;refine j1 (λb w'=>w'=w.here∧b=decide (0≤n∧n≤16384)) ?_ ?_
 ·refine ac (λh=>⟨rfl,Dec.eq ⟨λh'=>⟨h,h'⟩,λh'=>h'.2⟩⟩) (λh=>⟨rfl,?_⟩);rw [eq_comm,decide_eq_false_iff_not];omega
 rintro b _ ⟨rfl,rfl⟩;exact rt1 (c:=.bool) _ (Ext.refl _ _) rfl
def gj(n m:Int)(r:Int):Prop:=(0≤r∧r≤5)∧(r=0→m=0)∧(r≠0→1≤m)∧(r=2→4≤m∧2*m≤n+1)∧(3≤r→4≤m∧n+1<2*m)
theorem table_route{t:HL I11}{w:TW}(ht:(4:Int)≤t.1)(h0:0≤m)(h1:m≤n)(h2:n≤16384):Ct Pg F.iR [.agg (aM I11 t).toArray,.int .i64 n,.int .i64 m] w aa [.one (.int .i64)] λ(r:Int) _=>gj n m r:=by
 refine Ct.iR ?_;unfold Sh.iR;intro w1 e1;obtain⟨N,rfl⟩:=Int.eq_ofNat_of_zero_le (show 0≤n by omega);obtain⟨M,rfl⟩:=Int.eq_ofNat_of_zero_le h0;refine ab om om (jb (x:=N+2) (y:=3) om rfl om dcd ?_);refine aG (λh=>?_) (λh=>?_)
 ·simp only [beq_iff_eq] at h;exact rt1 (c:=.int .i64) _ e1 (by unfold gj;omega)
 simp only [beq_eq_false_iff_ne,ne_eq] at h;refine ac (λh3=>?_) (λh3=>?_)
 ·exact rt1 (c:=.int .i64) _ e1 (by unfold gj;omega)
 refine ab om om (ab om om ?_);refine ac (λh4=>?_) (λh4=>?_)
 ·exact rt1 (c:=.int .i64) _ e1 (by unfold gj;omega)
 refine ac (λh5=>?_) (λh5=>?_)
 ·exact rt1 (c:=.int .i64) _ e1 (by unfold gj;omega)
 refine ab om om ?_;refine ac (λh6=>?_) (λh6=>?_)
 ·exact rt1 (c:=.int .i64) _ e1 (by unfold gj;omega)
 refine fV ?_;refine ac (λh7=>?_) (λh7=>?_)
 ·exact rt1 (c:=.int .i64) _ e1 (by unfold gj;omega)
 ·exact rt1 (c:=.int .i64) _ e1 (by unfold gj;omega)
theorem table_Route{t:HL I11}{w:TW}(h0:0≤n)(h1:n≤16384)(h2:0≤m)(h3:m≤16384):Ct Pg F.iS [.agg (aM I11 t).toArray,.int .i64 n,.int .i64 m] w aa [.one (.int .i64)] λ(r:Int) _=>gj (max n m) (min n m) r:=by
 refine Ct.iS ?_;unfold Sh.iS;intro w1 e1;refine⟨λx t1 t2 t3 t4 t5 t6 t7 t8 t9 t10 t11 w2=>x=false∧Ext aa w.here w2,?_,?_⟩
 ·refine c1 table_may ?_;rintro r w2 e2 rfl;refine ap (by simp;omega) ?_;refine c1 table_may ?_;rintro r w3 e3 rfl;exact⟨by simp;omega,(e1.trans e2).trans e3⟩
 rintro x t1 t2 t3 t4 t5 t6 t7 t8 t9 t10 t11 w4 ⟨rfl,e4⟩;refine ap rfl ?_;refine cl0 (table_Clamp (t:=(t1,t2,t3,t4,t5,t6,t7,t8,t9,t10,t11,()))) ?_;intro r r1 r2 r3 r4 r5 r6 r7 r8 r9 r10 w5 e5 hT
 have hr:(4:Int)≤r:=by
  obtain⟨_,_,_,_,_,_,_,_,_,_,_,h,h',_⟩:=hT;simp only [List.cons.injEq] at h;rw [h.1];exact h'.1
 refine ag (y:=max n m) (by split<;>omega) (ag (y:=min n m) (by split<;>omega) ?_);refine c1 (table_route (t:=(r,r1,r2,r3,r4,r5,r6,r7,r8,r9,r10,())) hr om om om) ?_;intro x w6 e6 hx;exact rt1 (c:=.int .i64) _ ((e4.trans e5).trans e6) hx
theorem Tn.tabAt{w:TW}{t:Nat}(h:Tn w t m a b tab){i:Nat}{x:Int}(hi:tab[i]?=some x){K:Int→Prop}(hK:K x):ldc (.int .i64) w (((⟨t,0,none⟩:Addr).add 3).add i) K:=
 ⟨x,by rw [show ((⟨t,0,none⟩:Addr).add 3).add i=⟨t,i+3,none⟩ from by rw [Addr.add_mk,Addr.add_mk,show 0+3+i=i+3 by omega],h.cell];simp [hi];rfl,hK⟩
theorem table_Tune_Route{w:TW}{t:Nat}{d:Int}{tab:List Int}(hT:Tn w t a b d tab)(hO:mA tab)(h0:0≤n)(h1:n≤16384)(h2:0≤m)(h3:m≤16384):Ct Pg F.ep [.pointer (some ⟨t,0,none⟩),.int .i64 n,.int .i64 m] w aa [.one (.int .i64)] λ(r:Int) _=>gj (max n m) (min n m) r:=by
 refine Ct.ep ?_;unfold Sh.ep;obtain⟨r0,r1,r2,r3,r4,r5,r6,r7,r8,r9,r10,rfl,-⟩:=hO;have H:=hT.here;refine ah (H.tabAt (i:=0) rfl (H.tabAt (i:=1) rfl (H.tabAt (i:=2) rfl (H.tabAt (i:=3) rfl (H.tabAt (i:=4) rfl (H.tabAt (i:=5) rfl (H.tabAt (i:=6) rfl (H.tabAt (i:=7) rfl (H.tabAt (i:=8) rfl (H.tabAt (i:=9) rfl (H.tabAt (i:=10) rfl ?_)))))))))));refine c1 (table_Route (t:=(r0,r1,r2,r3,r4,r5,r6,r7,r8,r9,r10,())) h0 h1 h2 h3) ?_;intro x w6 e6 hx;exact rt1 (c:=.int .i64) _ e6 hx
theorem mul_words{w:TW}{s:Sl}{l:List Nat}(h:Rd w s l):Ct Pg F.jm [s.v] w aa [.one .slice] λ(s':Sl) w'=>Rd w' s' (dg W64 (vl W64 l)):=by
 refine Ct.jm ?_;unfold Sh.jm;refine c1 (api_Nat_Len h.here) ?_;rintro r w1 hx rfl;have h1:=df h.sm;have h2:=h.cap;refine⟨om,om,om,?_⟩;exact rt1 (c:=.slice) _ hx (by simpa using (h.here.trim.ext hx).at_)
theorem Own.neTy{w:TW}{B:Nat}{e f:TypeId}{k l:Nat}{s:Sl}{vs us:List Value}(h:Own w B e k s vs)(g:Own w C f l x us)(hef:e≠f){c:Nat}(hs:s.blk=some c)(hx:x.blk=some c):False:=by
 rcases h.form with ⟨rfl,_⟩|⟨b,cur,hp,_,hg,_⟩
 ·simp [Sl.blk] at hs
 rcases g.form with ⟨rfl,_⟩|⟨b',cur',hp',_,hg',_⟩
 ·simp [Sl.blk] at hx
 have h1:b=c:=by simpa [Sl.blk,hp] using hs
 have h2:b'=c:=by simpa [Sl.blk,hp'] using hx
 subst h1;subst h2;rw [hg] at hg';simp only [Option.some.injEq,Obj.cells.injEq] at hg';exact hef hg'.2.1
def Os(w:TW)(B:Nat)(s:Sl)(xs:List Nat):Prop:=∃ss:List Sl,Own w B T.bP 1 s (ss.map Sl.v)∧ss.length=xs.length∧∀i t,ss[i]?=some t→Rd w t (dg W64 (xs.getD i 0))∧(dg W64 (xs.getD i 0)≠[]→∀c,t.blk=some c→s.blk≠some c∧c<w.w.heap.size)
section
variable {w w':TW} {t B:Nat} {s:Sl} {xs:List Nat}
theorem Os.nil(w:TW)(B:Nat):Os w B Sl.nil []:=⟨[],Own.nil w B _,rfl,λi t h=>by simp at h⟩
theorem Os.ext(h:Os w B s xs)(e:Ext aa w w'):Os w' B s xs:=by
 obtain⟨ss,h1,h2,h3⟩:=h;exact⟨ss,h1.ext e λ_ _ h=>h,h2,λi t ht=>⟨(h3 i t ht).1.ext e,λhn c hc=>⟨((h3 i t ht).2 hn c hc).1,Nat.lt_of_lt_of_le ((h3 i t ht).2 hn c hc).2 e.size⟩⟩⟩
theorem Os.extT(h:Os w B s xs)(hT:Tz w t)(e:Xt1 t w w'):Os w' B s xs:=by
 obtain⟨ss,h1,h2,h3⟩:=h;exact⟨ss,h1.extT hT dcd e,h2,λi t ht=>⟨(h3 i t ht).1.extT hT e,λhn c hc=>⟨((h3 i t ht).2 hn c hc).1,Nat.lt_of_lt_of_le ((h3 i t ht).2 hn c hc).2 e.size⟩⟩⟩
theorem Os.rs(h:Os w B s xs):Rs w s xs:=by
 obtain⟨ss,h1,h2,h3⟩:=h;exact⟨ss,h1.rdv,h2,λi t ht=>⟨_,(h3 i t ht).1,aV W2 _⟩⟩
theorem Os.from_(h:Os w B s xs):∀c,s.blk=some c→B≤c:=λc hc=>by
 obtain⟨ss,g1,-,-⟩:=h;exact (g1.from_ c hc).1
theorem Os.push{z:Nat}(h:Os w w0.w.heap.size s xs)(hT:Tz w t)(ex:Xt1 t w0 w)(hn:xs.length+1≤1099511627776)(hz:On w C x z){K:Sl→TW→Prop}(hK:∀s' w',Os w' w0.w.heap.size s' (xs++[z])→Xt1 t w0 w'→Ext (λc=>s.blk=some c) w w'→K s' w'):nwb w [x.v] T.bP λb w'=>apd w' T.bP 1 24 s ⟨some ⟨b,0,none⟩,1,1⟩ K:=by
 obtain⟨ss,g1,g2,g3⟩:=h;intro b w1 hw;have e1:Ext aa w w1:=hw.ext _;have hsx:∀c,x.blk=some c→s.blk≠some c:=λc hc hs=>Own.neTy g1 hz.ow dcd hs hc
 have hxs:∀c,x.blk=some c→c<w.w.heap.size:=λc hc=>(hz.from_ c hc).2
 have h:=g1.ext e1 λ_ _ h=>h
 have h1:=h.rdv.1;simp only [List.length_map,Nat.mul_one] at h1;have hle:=Nat.le_trans ex.size e1.size;refine⟨w0.w.heap.size,ss.map Sl.v,[x.v],h,⟨smp,Nat.le_refl _,by show 1≤maxLen;decide,λ_=>⟨b,0,rfl,λhV=>?_,λj v hj=>?_⟩⟩,hle,?_,?_,?_,λs' w' ho _ hx hb=>?_⟩
 ·rw [hw.V] at hV;have:=w.lt _ hV;have:=hw.at_;omega
 ·rw [cell_of_row w1.w b (0+j) _ T.bP (0,0) hw.heap];simpa using hj
 ·intro v hv;simp at hv;subst hv;rfl
 ·show s.n+1≤9223372036854775807;omega
 ·show (s.n+1)*24≤_;omega
 have x':Ext (λc=>s.blk=some c) w w':=e1.any.trans hx;have hb':∀c,s'.blk=some c→s.blk=some c∨w.w.heap.size≤c:=λc hc=>(hb c hc).imp id λh=>Nat.le_trans e1.size h
 refine hK s' w' ⟨ss++[x],by simpa using ho,by simp [g2],λi u hi=>?_⟩ (Ext.mineT ex x' λc hc=>.inr (g1.from_ c hc).1) x'
 have key:∀(u:Sl) (q:Nat),Rd w u (dg W64 q)→(dg W64 q≠[]→∀c,u.blk=some c→s.blk≠some c∧c<w.w.heap.size)→Rd w' u (dg W64 q)∧(dg W64 q≠[]→∀c,u.blk=some c→s'.blk≠some c∧c<w'.w.heap.size):=λu q k1 k2=>
  ⟨k1.extN x' λhne c hc=>(k2 hne c hc).1,λhne c hc=>⟨λhs=>(hb' c hs).elim (k2 hne c hc).1 λh=>by have:=(k2 hne c hc).2;omega,Nat.lt_of_lt_of_le (k2 hne c hc).2 x'.size⟩⟩
 rcases Nat.lt_or_ge i ss.length with hlt|hge
 ·rw [List.getElem?_append_left hlt] at hi;rw [show (xs++[z]).getD i 0=xs.getD i 0 by simp [List.getD_eq_getElem?_getD,List.getElem?_append_left (show i<xs.length by omega)]];exact key _ _ (g3 i u hi).1 (g3 i u hi).2
 ·rw [List.getElem?_append_right hge] at hi
  have hi':i=ss.length:=by
   have:=(List.getElem?_eq_some_iff.1 hi).1;simp at this;omega
  subst hi';simp at hi;subst hi;rw [show (xs++[z]).getD ss.length 0=z by rw [g2];simp];exact key _ _ hz.rd λ_ c hc=>⟨hsx c hc,hxs c hc⟩
end
end
def nf(n:Nat)(p:Option Addr)(bs:List Nat)(t:Nat)(tab:List Int):Prop:=∀{w:TW} {now:Int} {a b:Sl} {la lb:List Nat},Eg w p bs t now tab→Rd w a la→Rd w b lb→la.length+lb.length<n→la.length≤1073741824→lb.length≤1073741824→0≤now→now+(la.length+lb.length:Nat)≤2305843009213693952→
 Ct Pg F.bB [.pointer p,a.v,b.v] w (λk=>k=t) [.one .slice] λ(s:Sl) w'=>On w' w.w.heap.size s (vl W64 la*vl W64 lb)∧Eg w' p bs t now tab
theorem ud{xs:List Nat}{z i:Nat}:(xs++[z]).getD i 0=if i=xs.length then z else xs.getD i 0:=by
 simp only [List.getD_eq_getElem?_getD];rcases Nat.lt_trichotomy i xs.length with h|h|h
 ·rw [List.getElem?_append_left h,if_neg om]
 ·subst h;simp
 ·rw [List.getElem?_append_right om,if_neg om,List.getElem?_eq_none (l:=xs) om,List.getElem?_eq_none (by simp;omega)]
theorem sf{n:Nat}{p:Option Addr}{bs:List Nat}{t:Nat}{tab:List Int}(hI:nf n p bs t tab){w:TW}{now:Int}{a b:Sl}{la lb:List Nat}{N:Nat}(hE:Eg w p bs t now tab)(ha:Rd w a la)(hb:Rd w b lb)(hN1:1≤N)(hN2:N≤16384)(hla:la.length≤1073741824)(hlb:lb.length≤1073741824)(h0:0≤now)(hn:N+min la.length lb.length<n)(hnow:now+(N+min la.length lb.length:Nat)≤2305843009213693952)(hc:max la.length lb.length≤N*524288):
  Ct Pg F.cK [.pointer p,a.v,b.v,.int .i64 N] w (λk=>k=t) [.one .slice] λ(s:Sl) w'=>On w' w.w.heap.size s (vl W64 la*vl W64 lb)∧Eg w' p bs t now tab:=by
 refine Ct.cK ?_;unfold Sh.cK;obtain⟨Z,hZ⟩:∃Z,vl W64 la*vl W64 lb=Z:=⟨_,rfl⟩;have na:=ha.len;have nb:=hb.len;rw [hZ];obtain⟨A,hA⟩:∃A,max la.length lb.length=A:=⟨_,rfl⟩;obtain⟨B,hB⟩:∃B,min la.length lb.length=B:=⟨_,rfl⟩;rw [hB] at hn hnow;rw [hA] at hc;have hA30:A≤1073741824:=om;have hB30:B≤1073741824:=om;refine j2 (λ(x y:Sl) w1=>∃l1 l2,Rd w1 x l1∧Rd w1 y l2∧l1.length=A∧l2.length=B∧vl W64 l1*vl W64 l2=Z∧w1=w.here) ?_ ?_
 ·refine ac (λh=>?_) (λh=>?_)
  ·exact⟨lb,la,hb.here,ha.here,om,om,by rw [Nat.mul_comm];exact hZ,rfl⟩
  ·exact⟨la,lb,ha.here,hb.here,om,om,hZ,rfl⟩
 clear ha hb na nb hZ hA hB hla hlb la lb a b;rintro a b _ ⟨l1,l2,ha,hb,n1,n2,hZ,rfl⟩;have na:=ha.len;have nb:=hb.len;have hz:=hE.here.tz;refine j1 (λ(s:Sl) w2=>∃xs,Os w2 w.here.w.heap.size s xs∧vl (W64^N) xs*1=Z∧xs.length≤1048576∧(∀t,sz (xs.getD t 0)≤N+B)∧Xt1 t w.here w2∧Eg w2 p bs t now tab) ?_ ?_
 ·refine lp2 (λm (s:Sl) (i:Int) w2=>∃(j:Nat) (xs:List Nat),i=(j*N:Nat)∧m=A-j*N∧j≤524289∧xs.length=j∧Os w2 w.here.w.heap.size s xs∧vl (W64^N) xs=vl W64 (l1.take (j*N))*vl W64 l2∧(∀t,sz (xs.getD t 0)≤N+B)∧Xt1 t w.here w2∧Eg w2 p bs t now tab) A ⟨0,[],smp,om,om,rfl,Os.nil _ _,by simp [vl],by intro t;simp [sz,dg],Ext.refl _ _,hE.here⟩ ?_;rintro m s i w2 ⟨j,xs,rfl,rfl,hj,hxl,hs,hv,hsz,e2,hE2⟩;obtain⟨J,hJ⟩:∃J,j*N=J:=⟨_,rfl⟩;rw [hJ] at hv ⊢;refine ac (λh=>?_) (λh=>?_)
  ·have hJA:J<A:=om
   have hj':j<524289:=by
    rcases Nat.lt_or_ge j 524289 with h|h
    ·exact h
    ·have:=Nat.mul_le_mul_right N h;omega
   refine ab om om (ag (y:=((min (J+N) A:Nat):Int)) (by split<;>omega) ?_);have ca:=ha.cap;obtain⟨H,hH⟩:∃H,min (J+N) A=H:=⟨_,rfl⟩;rw [hH];refine⟨om,om,om,?_⟩;simp only [Int.toNat_natCast];have a2:=(ha.extT hz e2).cut (lo:=J) (hi:=H) om om;obtain⟨pl,hpl⟩:∃pl,(l1.take H).drop J=pl:=⟨_,rfl⟩;rw [hpl] at a2;have hpn:pl.length≤N:=by rw [←hpl];simp;omega
   have hsplit:vl W64 (l1.take (J+N))=vl W64 (l1.take J)+W64^J*vl W64 pl:=by
    have h1:l1.take (J+N)=l1.take H:=by
     rcases Nat.le_total (J+N) A with h|h
     ·rw [show H=J+N by omega]
     ·rw [List.take_of_length_le om,List.take_of_length_le om]
    have h2:l1.take H=l1.take J++pl:=by
     rw [←hpl];have:=(List.take_append_drop J (l1.take H)).symm;rw [List.take_take,show min J H=J by omega] at this;exact this
    rw [h1,h2,dY,List.length_take,show min J l1.length=J by omega]
   refine a2.copy (Nat.le_refl _) om λs1 w3 h3 e3 _=>?_
   have b3:=(hb.extT hz e2).ext e3;have hE3:=hE2.ext e3;refine t1 hE3.tz (hI hE3 h3.rd b3 om om om h0 om) ?_;rintro s2 w4 e4 ⟨h4,hE4⟩;have hs4:=(hs.ext e3).extT hE3.tz e4;have e24:Xt1 t w.here w4:=(e2.trans (e3.any)).trans e4;refine Os.push hs4 hE4.tz e24 om h4 λs3 w5 h5 e5 x5=>?_
   have hE5:Eg w5 p bs t now tab:=hE4.young hE.here x5 hs4.from_;refine ab om om ⟨A-(J+N),om,j+1,xs++[vl W64 pl*vl W64 l2],by rw [Nat.succ_mul,hJ];omega,by rw [Nat.succ_mul,hJ],om,by simp [hxl],h5,?_,?_,e5,hE5⟩
   ·rw [gG,hv,Nat.succ_mul,hJ,hsplit,hxl,yb,Nat.mul_comm N j,hJ];generalize W64^J=q;grind
   ·intro u;rw [ud];split
    ·refine Nat.le_trans (dt _ _) ?_;have k1:=df h3.sm;have k2:=df hb.sm;omega
    ·exact hsz u
  ·exact⟨xs,hs,by rw [hv,List.take_of_length_le om,hZ,Nat.mul_one],om,hsz,e2,hE2⟩
 rintro s w2 ⟨xs,hs,hv,hxl,hsz,e2,hE2⟩;refine c1 (limb_Join (k:=N) hs.rs hxl λu=>Nat.le_trans (hsz u) om) ?_;intro s' w3 e3 h3;rw [show min ((N:Int)).toNat 16384=N by omega] at h3;rw [Nat.mul_one] at hv;rw [hv] at h3;exact rt1 (c:=.slice) _ (e2.trans e3.any) ⟨(h3.less e2.size).at,(hE2.ext e3).at⟩
section
variable {w:TW} {d e k m n t:Nat} {p:Option Addr} {tab:List Int} {now:Int} {a b:Sl} {la lb:List Nat}
theorem Rd.neT{s:Sl}{l:List Nat}(h:Rd w s l)(hT:Tz w t)(hl:l≠[]):s.blk≠some t:=h.rv.neT (acX l) hT λh'=>hl (List.map_eq_nil_iff.1 h')
theorem zG(hI:nf n p [m,d,k,e] t tab)(hE:Eg w p [m,d,k,e] t now tab)(ha:Rd w a la)(hb:Rd w b lb)(hla:la.length≤16384)(hlb:lb.length≤16384)(h0:0≤now)(hn:la.length+lb.length≤n)(hnow:now+(la.length+lb.length:Nat)≤2305843009213693952)(h4:4≤min la.length lb.length)(hm:2*min la.length lb.length≤max la.length lb.length+1):
  Ct Pg F.ez [.pointer p,a.v,b.v] w (λk=>k=t) [.one .slice] λ(s:Sl) w'=>On w' w.w.heap.size s (vl W64 la*vl W64 lb)∧Eg w' p [m,d,k,e] t now tab:=by
 refine Ct.ez ?_;unfold Sh.ez;have na:=ha.len;have nb:=hb.len;refine hE.here.down λq1 E1=>E1.down λq2 E2=>E2.down λq3 E3=>E3.down λq4 E4=>?_
 have hq:q4=some ⟨t,0,none⟩:=E4.1;subst hq;obtain⟨_,_,hTab,hG,mm,dd,hT⟩:=E4;refine ah (t1 hT.tz (kK hT h0 om) λ_ w1 x1 hT1=>?_);have hEn:Eg w1 p [m,d,k,e] t (now+1) tab:=hE.here.set x1 hT1;have a1:=ha.here.extT hT.tz x1;have b1:=hb.here.extT hT.tz x1;refine ag (y:=((min la.length lb.length:Nat):Int)) (by rw [na,nb];split<;>omega) ?_;refine t1 hEn.tz (sf hI hEn a1 b1 om om om om om om om om) ?_;rintro s w2 x2 ⟨hs,hE2⟩;refine hE2.down λq1 E1=>E1.down λq2 E2=>E2.down λq3 E3=>E3.down λq4 E4=>?_
 have hq:q4=some ⟨t,0,none⟩:=E4.1;subst hq;obtain⟨_,_,_,_,m2,d2,hT2⟩:=E4;refine ah (t1 hT2.tz (kJ hT2 h0 om) λ_ w3 x3 hT3=>?_);exact rt1 (c:=.slice) _ ((x1.trans x2).trans x3) ⟨((hs.extT hT2.tz x3).less x1.size).at,(hE2.set x3 hT3).at⟩
theorem yU{bs:List Nat}(hI:nf n p bs t tab)(hne:∀c∈bs,c≠t)(hTab:mA tab)(hg:G.iw≠t):
  In2 (.func (.func F.bB) #[.pointer p] #[]) t tab aa (λ(_:Unit) w=>bT w p bs t∧Gl w) (λnow x y=>0≤now∧now+(x+y:Nat)≤2305843009213693952∧x+y<n∧x≤1073741824∧y≤1073741824) (λ_ _ _ _ _ _ _ _ _=>True):=by
 refine⟨λh=>⟨h.1.at,h.2.at⟩,λh x=>⟨h.1.extX x hne,h.2.extX x hg⟩,λ_ h=>h.elim,?_⟩;rintro w _ m now deep a b la lb hT ⟨hC,hG⟩ ha hb - - ⟨h0,h1,h2,h3,h4⟩ K hK;have hE:Eg w p bs t now tab:=⟨hC,hne,hTab,hG,m,deep,hT⟩;refine aar (first:=[.pointer p]) (captured:=[]) krf (t1 hT.tz (hI hE ha hb h2 h3 h4 h0 h1) ?_);rintro s w' x ⟨hs,hC',-,-,hG',m',deep',hT'⟩;exact hK s w' () m' deep' (x.weak λ_ h=>.inl h) hs hT' ⟨hC',hG'⟩ trivial
theorem aaZ(hI:nf n p [m,d,k,e] t tab){r:Int}(hE:Eg w p [m,d,k,e] t now tab)(ha:Rd w a la)(hb:Rd w b lb)(hla:la.length≤16384)(hlb:lb.length≤16384)(h0:0≤now)(hn:la.length+lb.length≤n)(hnow:now+(la.length+lb.length:Nat)≤2305843009213693952)(hr:gj (max la.length lb.length:Nat) (min la.length lb.length:Nat) r):
  Ct Pg F.fy [.pointer p,.int .i64 r,a.v,b.v] w (λk=>k=t) [.one .slice,.one .bool] λ(s:Sl)(ok:Bool) w'=>(ok=true→On w' w.w.heap.size s (vl W64 la*vl W64 lb))∧Eg w' p [m,d,k,e] t now tab:=by
 refine Ct.fy ?_;unfold Sh.fy;have hE:=hE.here;have ha:=ha.here;have hb:=hb.here;have hz:=hE.tz;have hat:=ha.neT hz;have hbt:=hb.neT hz;have hI2:=yU hI hE.2.1 hE.2.2.1 (hE.gl.neT hz);have hS:bT w.here p [m,d,k,e] t∧Gl w.here:=⟨hE.1,hE.gl⟩;obtain⟨Z,hZ⟩:∃Z,vl W64 la*vl W64 lb=Z:=⟨_,rfl⟩;have wk:∀{x y:TW},Ext (λk=>k=t∨aa k) x y→Xt1 t x y:=λe=>e.weak λ_ h=>h.elim id λh=>h.elim
 obtain⟨hr1,hr2,hr3,hr4,hr5⟩:=hr;refine aG (λh=>?_) (λh=>?_)
 ·simp only [beq_iff_eq] at h;refine rt2 (c:=.slice) (d:=.bool) Sl.nil true (Ext.refl _ _) ⟨λ_=>?_,hE.at⟩;have h1:=hr2 h
  have:vl W64 la*vl W64 lb=0:=by
   rcases Nat.le_total la.length lb.length with h'|h'
   ·have:la=[]:=List.eq_nil_of_length_eq_zero om;rw [this];simp [vl]
   ·have:lb=[]:=List.eq_nil_of_length_eq_zero om;rw [this];simp [vl]
  rw [this];exact On.nil _ _
 refine aG (λh=>?_) (λh=>?_)
 ·refine hE.down λq1 E1=>E1.down λq2 E2=>E2.down λq3 E3=>?_
  obtain⟨hC3,_,hTab,hG,mm,dd,hT⟩:=E3;refine t1 hz (rS hC3.en hT ha hb hat hbt om om) ?_;rintro s w1 x1 ⟨g1,g2⟩;exact rt2 (c:=.slice) (d:=.bool) _ true x1 ⟨λ_=>g1.at,(hE.set x1 g2).at⟩
 refine aG (λh=>?_) (λh=>?_)
 ·simp only [beq_iff_eq] at h;have h1:=hr4 h;refine t1 hz (zG hI hE ha hb hla hlb h0 hn hnow om om) ?_;rintro s w1 x1 ⟨g1,g2⟩;exact rt2 (c:=.slice) (d:=.bool) _ true x1 ⟨λ_=>g1.at,g2.at⟩
 simp only [beq_eq_false_iff_ne,ne_eq] at h;rename_i ha0 hb1;simp only [beq_eq_false_iff_ne,ne_eq] at ha0 hb1;have h1:=hr5 om;obtain⟨N,hN⟩:∃N,max la.length lb.length=N:=⟨_,rfl⟩;obtain⟨M,hM⟩:∃M,min la.length lb.length=M:=⟨_,rfl⟩;rw [hN,hM] at h1;refine aG (λh=>?_) (λh=>?_)
 ·refine hE.down λq1 E1=>E1.down λq2 E2=>?_
  obtain⟨hC2,hne2,hTab,hG,mm,dd,hT⟩:=E2;refine gW (zS (s0:=()) hI2 hC2 (λc hc=>⟨hne2 c hc,λh=>h⟩) hT hS ha hb hat hbt hla hlb h0 om (h:=(N+1)/2) (by rw [hN]) (λ_=>by rw [hN,hM];omega)) (λc hc=>hc.elim (λh=>h▸hT.V) λh=>h.elim) ?_;rintro s ok w1 x1 ⟨-,hk⟩;rw [hM] at hk;obtain⟨-,g1,s1,m1,d1,s2,m2,d2,s3,m3,d3,-,-,-,g2,-⟩:=hk om;exact rt2 (c:=.slice) (d:=.bool) _ ok (wk x1) ⟨λ_=>g1.at,(hE.set (wk x1) g2).at⟩
 refine aG (λh=>?_) (λh=>?_)
 ·refine hE.down λq1 E1=>?_
  obtain⟨hC1,hne1,hTab,hG,mm,dd,hT⟩:=E1;refine gW (yS (s0:=()) hI2 hC1 (λc hc=>⟨hne1 c hc,λh=>h⟩) hT hS ha hb hat hbt hla hlb h0 om hN hM (h:=(N+2)/3) rfl (λ_=>om)) (λc hc=>hc.elim (λh=>h▸hT.V) λh=>h.elim) ?_;rintro s ok w1 x1 ⟨hk0,hk⟩;rcases Nat.lt_or_ge (2*((N+2)/3)) M with h'|h'
  ·obtain⟨-,g1,s1,m1,d1,s2,m2,d2,s3,m3,d3,s4,m4,d4,s5,m5,d5,-,-,-,-,-,g2,-⟩:=hk h';exact rt2 (c:=.slice) (d:=.bool) _ ok (wk x1) ⟨λ_=>g1.at,(hE.set (wk x1) g2).at⟩
  ·obtain⟨rfl,rfl,-,g2,-⟩:=hk0 h';exact rt2 (c:=.slice) (d:=.bool) Sl.nil false (wk x1) ⟨λh=>(by cases h),(hE.set (wk x1) g2).at⟩
 refine aG (λh=>?_) (λh=>?_)
 ·refine hE.down λq1 E1=>E1.down λq2 E2=>E2.down λq3 E3=>E3.down λq4 E4=>?_
  have hq:q4=some ⟨t,0,none⟩:=E4.1;subst hq;obtain⟨_,_,hTab,hG,mm,dd,hT⟩:=E4;refine ah (t2 hz (conv_Mul hG hT ha hb) ?_);rintro s ok w1 x1 ⟨g1,m',g2⟩;exact rt2 (c:=.slice) (d:=.bool) _ ok x1 ⟨λh=>(g1 h).at,(hE.set x1 g2).at⟩
 exact rt2 (c:=.slice) (d:=.bool) Sl.nil false (Ext.refl _ _) ⟨λh=>(by cases h),hE.at⟩
theorem tT{p:Option Addr}{m d k e t:Nat}{tab:List Int}:∀n,nf n p [m,d,k,e] t tab
 | 0=>λ_ _ _ h=>by omega
 | n+1=>by
  have hI:nf n p [m,d,k,e] t tab:=@tT p m d k e t tab n;rename_i w now a b la lb;intro hE ha hb hn hla hlb h0 hnow;refine Ct.bB ?_;unfold Sh.bB;have na:=ha.len;have nb:=hb.len;have hE:=hE.here;have ha:=ha.here;have hb:=hb.here;have hz:=hE.tz;refine j1 (λ(x:Bool) w'=>w'=w.here∧x=decide (16384<la.length∨16384<lb.length)) ?_ ?_
  ·rw [na,nb];refine ac (λh=>⟨rfl,?_⟩) (λh=>⟨rfl,Dec.eq ?_⟩)
   ·rw [eq_comm,decide_eq_true_iff];omega
   ·omega
  rintro x _ ⟨rfl,rfl⟩;refine ac (λhl=>?_) (λhl=>?_)
  ·have hP:∀{K:Sl→TW→Prop},(∀s w',Xt1 t w.here w'→On w' w.here.w.heap.size s (vl W64 la*vl W64 lb)∧Eg w' p [m,d,k,e] t now tab→K s w')→cl Pg F.fx [.pointer p,a.v,b.v] w.here [.one .slice] K:=by
    intro K hK;refine t1 hz (Φ:=λ(s:Sl) w'=>On w' w.here.w.heap.size s (vl W64 la*vl W64 lb)∧Eg w' p [m,d,k,e] t now tab) ?_ hK;refine Ct.fx ?_;unfold Sh.fx;refine t1 hz (sf (N:=16384) hI hE.here ha.here hb.here dcd dcd hla hlb h0 om om om) ?_;rintro s w1 x1 ⟨g1,g2⟩;exact rt1 (c:=.slice) _ x1 ⟨g1.at,g2.at⟩
   refine hP λs w1 x1 h1=>?_
   exact rt1 (c:=.slice) _ x1 ⟨h1.1.at,h1.2.at⟩
  ·refine hE.down λq1 E1=>E1.down λq2 E2=>E2.down λq3 E3=>E3.down λq4 E4=>?_
   have hq:q4=some ⟨t,0,none⟩:=E4.1;subst hq;obtain⟨_,_,hTab,hG,mm,dd,hT⟩:=E4;rw [na,nb];refine c1 (table_Tune_Route hT hTab om om om om) ?_;intro r w1 e1 hr
   have hr:gj (max la.length lb.length:Nat) (min la.length lb.length:Nat) r:=by
    rw [show ((max la.length lb.length:Nat):Int)=max (la.length:Int) lb.length by omega,show ((min la.length lb.length:Nat):Int)=min (la.length:Int) lb.length by omega];exact hr
   have hE1:=hE.ext e1;have ha1:=ha.ext e1;have hb1:=hb.ext e1;refine t2 hE1.tz (aaZ hI hE1 ha1 hb1 om om h0 om hnow hr) ?_;rintro s ok w2 x2 ⟨g1,g2⟩;have e12:=e1.any.trans x2;cases ok with
   | true=>exact ap rfl (rt1 (c:=.slice) _ e12 ⟨((g1 rfl).less e1.size).at,g2.at⟩)
   | false=>
    refine aQ rfl ?_;refine g2.down λq1 E1=>E1.down λq2 E2=>E2.down λq3 E3=>?_
    obtain⟨hC3,_,hTab,hG,mm,dd,hT⟩:=E3;have ha2:=ha1.extT hE1.tz x2;have hb2:=hb1.extT hE1.tz x2;refine t1 hT.tz (rS hC3.en hT ha2 hb2 (ha2.neT hT.tz) (hb2.neT hT.tz) om om) ?_;rintro s w3 x3 ⟨g3,g4⟩;exact rt1 (c:=.slice) _ (e12.trans x3) ⟨(g3.less e12.size).at,(g2.set x3 g4).at⟩
theorem kZ{x y:Nat}(hE:Eg w p [m,d,k,e] t now tab)(ha:Nt w a x)(hb:Nt w b y)(hx:sz x≤1073741824)(hy:sz y≤1073741824)(h0:0≤now)(h1:now≤1152921504606846976):
  Ct Pg F.au [.pointer p,a.v,b.v] w (λk=>k=t) [.one .slice] λ(s:Sl) w'=>On w' w.w.heap.size s (x*y)∧Eg w' p [m,d,k,e] t now tab:=by
 refine Ct.au ?_;unfold Sh.au;obtain⟨la,ha,rfl⟩:=ha;obtain⟨lb,hb,rfl⟩:=hb;refine c1 (mul_words ha.here) λs w1 e1 h2=>?_
 refine c1 (mul_words (hb.here.ext e1)) λs1 w2 e2 h3=>?_
 have hE2:=(hE.here.ext e1).ext e2;have h2:=h2.ext e2;refine t1 hE2.tz (tT _ hE2 h2 h3 (Nat.lt_succ_self _) hx hy h0 (by simp only [aA];omega)) ?_;rintro s2 w3 x3 ⟨g1,g2⟩;rw [aV W2,aV W2] at g1;exact rt1 (c:=.slice) _ ((e1.trans e2).any.trans x3) ⟨(g1.less (e1.trans e2).size).at,g2.at⟩
end
section
variable {w:TW} {B D c hi j k q x y:Nat} {f:Sl} {i:Int} {A C P V:List Nat}
theorem Ow.storeW{F:List Nat}(h:Ow w B f F)(hik:i=k)(hhi:hi≤F.length)(hj:j+k<hi)(hx:x<W64){y:Int}(hy:y=x){K:TW→Prop}(hK:∀w',Ow w' B f (F.set (j+k) x)→Ext (λb=>f.blk=some b) w w'→K w'):ixa (f.cut j hi 1) i 1 (λa=>stc w a (.int .u64 y) K):=by
 subst hik;obtain⟨b,hp,-,-,hs⟩:=h.store (i:=((j+k:Nat):Int)) rfl om hx hy hK;have hc:=h.rd.cap;refine⟨b.add (j*1),?_,om,?_,?_⟩
 ·simp only [Sl.cut];rw [if_neg om,hp];rfl
 ·show (k:Int)<((hi-j:Nat):Int);omega
 ·rw [Int.toNat_natCast,Nat.mul_one] at hs ⊢;rw [Nat.mul_one];rcases h.ow.form with ⟨hn,hv⟩|⟨bb,cur,hp',_⟩
  ·rw [hn] at hp;cases hp
  rw [hp'] at hp;cases hp;rw [Addr.add_mk] at hs;rw [Addr.add_mk,Addr.add_mk,show 0+j+k=0+(j+k) by omega];exact hs
theorem Rd.ixW{F:List Nat}(h:Rd w f F)(hik:i=k)(hhi:hi≤F.length)(hj:j+k<hi){K:Int→Prop}(hK:K (F.getD (j+k) 0:Nat)):ixa (f.cut j hi 1) i 1 (λa=>ldc (.int .u64) w a K):=by
 refine (h.cut (lo:=j) (hi:=hi) om hhi).ix hik (by simp;omega) ?_
 have:((F.take hi).drop j).getD k 0=F.getD (j+k) 0:=by
  simp only [List.getD_eq_getElem?_getD,List.getElem?_drop,List.getElem?_take];rw [if_pos om]
 rw [this];exact hK
theorem abu{lo l u s e d n c':Nat}(hB:0<B)(h1:hi*B+lo=q*d)(h2:l+B*k=lo+c)(h3:s+l=u+B*e)(hl:l<B)(hlo:lo<B)(hc:c<B)(hq:q<B)(hd:d<B)(hu:u<B)(hs:s<B)(he:e≤1)(hk:k≤1):hi+k<B∧hi+k+e<B∧s+q*d+c=u+B*(hi+k+e):=by
 have hqd:q*d≤(B-1)*(B-1):=Nat.mul_le_mul om om;obtain⟨b,rfl⟩:∃b,B=b+1:=⟨B-1,om⟩;rw [Nat.add_sub_cancel] at hqd;have e1:(hi+k)*(b+1)+l=q*d+c:=by grind
 have h5:(hi+k)*(b+1)≤b*b+b:=om
 have h6:hi+k≤b:=by
  rcases Nat.lt_or_ge b (hi+k) with h|h
  ·have:=Nat.mul_le_mul_right (b+1) h;grind
  ·exact h
 refine⟨om,?_,by grind⟩;rcases Nat.lt_or_ge (hi+k) b with h|h
 ·omega
 ·have:hi+k=b:=om;rw [this] at e1;have:l=0:=by grind
  subst this
  have:e=0:=by
   rcases Nat.eq_zero_or_pos e with h|h
   ·exact h
   ·have:e=1:=om;subst this;omega
  omega
theorem Sm.mid{b:Nat}(h:Sm b (A++(V++C))):Sm b V:=λx hx=>h x (by simp [hx])
theorem wZ:(A++(P++x::C)).set (A.length+P.length) y=A++((P++[y])++C):=by
 simp [List.set_append]
theorem vK:(A++(P++x::C)).getD (A.length+P.length) 0=x:=by
 simp [List.getD_eq_getElem?_getD]
theorem kb{F:List Nat}(h:k<F.length):F.drop k=F.getD k 0::F.drop (k+1):=by
 rw [List.drop_eq_getElem_cons h];simp [h]
theorem aec(h1:x<D)(h2:y<B):(x*B+y)/D<B:=by
 refine (Nat.div_lt_iff_lt_mul om).2 ?_;have:=Nat.mul_le_mul_right B (show x+1≤D from h1);rw [Nat.add_mul,Nat.one_mul] at this;rw [Nat.mul_comm B D];omega
theorem aed{p U U3 D2:Nat}(hU:U/p=U3)(hD:D2*p≤D)(hD2:0<D2*p):U/D≤U3/D2:=by
 rw [←hU,Nat.div_div_eq_div_mul,Nat.mul_comm p];exact Nat.div_le_div_left hD hD2
theorem acI{U Wp R V:Nat}(h:V+q*D=U+Wp)(hR:R+Wp*c=V+D)(hq:U/D<q)(hD:0<D)(hRl:R<Wp)(hVl:V<Wp)(hc:c≤1):(c=1→R=U%D∧q-1=U/D)∧(c=0→R+(q-1)*D=U+Wp∧U/D<q-1):=by
 obtain⟨k,rfl⟩:∃k,q=k+1:=⟨q-1,by have:=Nat.lt_of_le_of_lt (Nat.zero_le _) hq;omega⟩;rw [Nat.add_sub_cancel];rw [Nat.add_mul,Nat.one_mul] at h;constructor
 ·rintro rfl;rw [Nat.mul_one] at hR;have h1:U=R+k*D:=om;have h2:R<D:=om;subst h1;rw [Nat.add_mul_mod_self_right,Nat.mod_eq_of_lt h2,Nat.add_mul_div_right _ _ hD,Nat.div_eq_of_lt h2,Nat.zero_add];exact⟨rfl,rfl⟩
 ·rintro rfl;rw [Nat.mul_zero] at hR;exact⟨om,(Nat.div_lt_iff_lt_mul hD).2 om⟩
theorem acH{U V:Nat}(h:V+q*D=U)(hq:U/D≤q)(hD:0<D):V=U%D∧q=U/D:=by
 have h1:q≤U/D:=(Nat.le_div_iff_mul_le hD).2 om;have h2:q=U/D:=om;have:=Nat.div_add_mod U D;rw [←h2,Nat.mul_comm] at this;exact⟨om,h2⟩
theorem divs_digit{d:Sl}{dl:List Nat}{v m:Nat}(hf:Ow w B f (A++(V++C)))(hd:Rd w d dl)(hV:V.length=m+1)(hdl:dl.length=m)(hm:2≤m)(hne:∀c,d.blk=some c→¬f.blk=some c)(ht:9223372036854775808≤dl.getD (m-1) 0)(hv:Rcp (dl.getD (m-1) 0*18446744073709551616+dl.getD (m-2) 0) v)(hU:vl W64 V<vl W64 dl*W64):
  Ct Pg F.js [(f.cut A.length (A.length+m+1) 1).v,d.v,.int .u64 v] w (λc=>f.blk=some c) [.one (.int .u64)] λ(r:Int) w'=>∃V',Ow w' B f (A++(V'++C))∧V'.length=m+1∧vl W64 V'=vl W64 V%vl W64 dl∧r=(vl W64 V/vl W64 dl:Nat):=by
 refine Ct.js ?_;unfold Sh.js;have nd:=hd.len;have hf:=hf.here;have hd:=hd.here;have cf:=hf.rd.cap;simp only [List.length_append] at cf
 have gV:∀k,k≤m→(A++(V++C)).getD (A.length+k) 0=V.getD k 0:=λk hk=>by
  simp only [List.getD_eq_getElem?_getD];rw [List.getElem?_append_right om,Nat.add_sub_cancel_left,List.getElem?_append_left om]
 have hl:A.length+m+1≤(A++(V++C)).length:=by simp;omega
 rw [nd,hdl];refine hf.drew.rd.ixW (k:=m) rfl hl om ?_;refine ag (y:=((m-1:Nat):Int)) (by rw [ar om om];omega) (hf.drew.rd.ixW (k:=m-1) rfl hl om ?_);refine ag (y:=((m-2:Nat):Int)) (by rw [ar om om];omega) (hf.drew.rd.ixW (k:=m-2) rfl hl om ?_);refine ag (y:=((m-1:Nat):Int)) (by rw [ar om om];omega) (hd.drew.ix (j:=m-1) rfl om ?_);refine ag (y:=((m-2:Nat):Int)) (by rw [ar om om];omega) (hd.drew.ix (j:=m-2) rfl om ?_);rw [gV _ om,gV _ om,gV _ om];have sV:Sm W64 V:=λx hx=>hf.sm x (by simp [hx])
 have gVl:∀k,V.getD k 0<W64:=λk=>sV.getD dcd k
 have gdl:∀k,dl.getD k 0<W64:=λk=>hd.lt k
 obtain⟨d1,hd1⟩:∃d1,dl.getD (m-1) 0=d1:=⟨_,rfl⟩;obtain⟨d0,hd0⟩:∃d0,dl.getD (m-2) 0=d0:=⟨_,rfl⟩;obtain⟨D,hD⟩:∃D,vl W64 dl=D:=⟨_,rfl⟩;obtain⟨U,hUe⟩:∃U,vl W64 V=U:=⟨_,rfl⟩;have ld1:=gdl (m-1);have ld0:=gdl (m-2);rw [hd1] at ht hv ld1 ⊢;rw [hd0] at hv ld0 ⊢;rw [hD,hUe] at hU ⊢;have hDl:D<W64^m:=by rw [←hD,←hdl];exact jQ hd.sm
 have hDtop:(d1*18446744073709551616+d0)*W64^(m-2)≤D:=by
  rw [←hD];have h1:=aj W64 dl (m-2);have h2:=aj W64 dl (m-1);rw [show m-1+1=m by omega,aJ om,hd1] at h2;rw [show m-2+1=m-1 by omega,hd0] at h1;rw [h2,h1,show m-1=(m-2)+1 by omega,Nat.pow_succ,show W64=18446744073709551616 from rfl];generalize (18446744073709551616:Nat)^(m-2)=p;generalize (18446744073709551616:Nat)=W;have e:(d1*W+d0)*p=p*d0+p*W*d1:=by grind
  rw [e];generalize vl _ (dl.take (m-2))=z;omega
 have hUtop:U/W64^(m-2)=(V.getD m 0*18446744073709551616+V.getD (m-1) 0)*18446744073709551616+V.getD (m-2) 0:=by
  have h1:=aj W64 V (m-2);have h2:=aj W64 V (m-1);have h3:=aj W64 V m;rw [aJ om,hUe] at h3;rw [show m-1+1=m by omega] at h2;rw [show m-2+1=m-1 by omega] at h1
  have h4:vl W64 (V.take (m-2))<W64^(m-2):=by
   have:=jQ (l:=V.take (m-2)) (b:=W64) (λx hx=>sV x (List.mem_of_mem_take hx));rwa [List.length_take,show min (m-2) V.length=m-2 by omega] at this
  rw [h3,h2,h1,show W64^m=W64^(m-2)*W64*W64 by rw [←Nat.pow_succ,←Nat.pow_succ];congr 1;omega,show W64^(m-1)=W64^(m-2)*W64 by rw [←Nat.pow_succ];congr 1;omega];rw [show (18446744073709551616:Nat)=W64 from rfl];generalize W64^(m-2)=p at*;generalize W64=W at*;have e:vl W (List.take (m-2) V)+p*V.getD (m-2) 0+p*W*V.getD (m-1) 0+p*W*W*V.getD m 0=vl W (List.take (m-2) V)+p*((V.getD m 0*W+V.getD (m-1) 0)*W+V.getD (m-2) 0):=by grind
  rw [e,Nat.add_mul_div_left _ _ om,Nat.div_eq_of_lt h4,Nat.zero_add]
 have hD0:0<D:=by
  have:0<(d1*18446744073709551616+d0)*W64^(m-2):=Nat.mul_pos om (Nat.pow_pos dcd);omega
 have hqd:U/D≤((V.getD m 0*18446744073709551616+V.getD (m-1) 0)*18446744073709551616+V.getD (m-2) 0)/(d1*18446744073709551616+d0):=aed hUtop hDtop (Nat.mul_pos om (Nat.pow_pos dcd));have hqW:U/D<W64:=(Nat.div_lt_iff_lt_mul hD0).2 (by rw [Nat.mul_comm];exact hU);refine cl0 (word_Div3 (gVl m) (gVl (m-1)) (gVl (m-2)) ld1 ht ld0 hv) ?_;rintro q _ _ ok w1 e1 ⟨hok,hq⟩;have hf1:=hf.drew.ext e1;have hd1':=hd.drew.ext e1;refine j1 (λ(x:Int) w2=>w2=w1∧∃q:Nat,x=q∧q<W64∧U/D≤q) ?_ ?_
 ·cases ok with
  | false=>exact aQ rfl ⟨rfl,18446744073709551615,rfl,dcd,by rw [w64] at hqW;omega⟩
  | true=>
   refine ap rfl ⟨rfl,_,hq rfl,?_,hqd⟩;have h1:=of_decide_eq_true hok.symm;exact aec h1 (gVl (m-2))
 rintro x w1 ⟨rfl,q,rfl,hqW',hqge⟩;clear hqd hUtop hDtop hok hq ok hv ht
 have gF:∀(P:List Nat) (k:Nat),P.length=k→k≤m→(A++(P++(V.drop k++C))).getD (A.length+k) 0=V.getD k 0:=λP k hP hk=>by
  rw [kb om,List.cons_append];subst hP;exact vK
 have sF:∀(P:List Nat) (k x:Nat),P.length=k→k≤m→(A++(P++(V.drop k++C))).set (A.length+k) x=A++((P++[x])++(V.drop (k+1)++C)):=λP k x hP hk=>by
  rw [kb om,List.cons_append];subst hP;exact wZ
 have lF:∀(P:List Nat) (k:Nat),P.length=k→k≤m+1→(A++(P++(V.drop k++C))).length=A.length+(m+1)+C.length:=λP k hP hk=>by simp;omega
 refine j1 (λ(c:Int) w2=>∃(cn:Nat) (P:List Nat),c=cn∧cn<W64∧P.length=m∧Ow w2 B f (A++(P++(V.drop m++C)))∧vl W64 P+q*D=vl W64 (V.take m)+W64^m*cn∧Ext (λc=>f.blk=some c) w1 w2) ?_ ?_
 ·refine lp2 (λM (c i:Int) w2=>∃(j cn:Nat) (P:List Nat),i=j∧c=cn∧cn<W64∧M=m-j∧j≤m∧P.length=j∧Ow w2 B f (A++(P++(V.drop j++C)))∧vl W64 P+q*vl W64 (dl.take j)=vl W64 (V.take j)+W64^j*cn∧Ext (λc=>f.blk=some c) w1 w2) m ⟨0,0,[],rfl,rfl,dcd,rfl,om,rfl,hf1,by simp [vl],Ext.refl _ _⟩ ?_;rintro M c i w2 ⟨j,cn,P,rfl,rfl,hcn,rfl,hj,hP,ho,hv,e2⟩;refine ac (λh=>?_) (λh=>?_)
  ·have hjm:j<m:=om;have hd2:=hd1'.extX e2 hne;refine hd2.ix rfl om ?_;refine c2 (bits_Mul64 hqW' (gdl j)) ?_;rintro hi lo w3 e3 ⟨rfl,rfl⟩;refine jf (a:=q*dl.getD j 0%W64) (b:=cn) (d:=0) rfl rfl rfl dcd (Nat.mod_lt _ dcd) hcn λl k hl hk hlk=>?_
   have hlo:q*dl.getD j 0%W64<W64:=Nat.mod_lt _ dcd;have hhl:=Nat.div_add_mod (q*dl.getD j 0) W64;obtain⟨hi,hhi⟩:∃hi,q*dl.getD j 0/W64=hi:=⟨_,rfl⟩;obtain⟨lo,hlo'⟩:∃lo,q*dl.getD j 0%W64=lo:=⟨_,rfl⟩;rw [hhi,hlo'] at hhl;rw [hlo'] at hlk hlo;rw [hhi];have st:=λs e hs he hse=>abu (B:=W64) (hi:=hi) (lo:=lo) (c:=cn) (l:=l) (k:=k) (u:=V.getD j 0) (s:=s) (e:=e) (q:=q) (d:=dl.getD j 0) (n:=0) (c':=0) dcd (by rw [←hhl,Nat.mul_comm]) (by rw [w64];omega) hse hl hlo hcn hqW' (gdl j) (gVl j) hs he hk
   have hik:hi+k<W64:=by
    by_cases h:l≤V.getD j 0
    ·exact (st (V.getD j 0-l) 0 (by have:=gVl j;omega) dcd om).1
    ·exact (st (V.getD j 0+W64-l) 1 om dcd (by have:=hl;rw [←w64] at this;omega)).1
   refine ai (y:=hi+k) om hik ?_;have ho3:=ho.ext e3;refine ho3.rd.ixW (k:=j) rfl (by rw [lF P j hP om];omega) om ?_;rw [gF P j hP hj];refine mE (a:=V.getD j 0) (b:=l) (d:=0) rfl rfl rfl dcd (gVl j) hl λs e hs he hse=>?_
   obtain⟨-,st2,st3⟩:=st s e hs he (by rw [w64];omega);refine ho3.storeW (k:=j) rfl (by rw [lF P j hP om];omega) om hs rfl λw4 ho4 e4=>?_
   rw [sF P j s hP hj] at ho4;refine ai (y:=hi+k+e) om st2 (ab om om ⟨m-(j+1),om,j+1,hi+k+e,P++[s],om,rfl,st2,rfl,om,by simp [hP],ho4,?_,(e2.trans e3.any).trans e4⟩);rw [gG,hP,aj,aj,Nat.pow_succ];generalize vl W64 P=a1 at*;generalize vl W64 (dl.take j)=a2 at*;generalize vl W64 (V.take j)=a3 at*;generalize W64^j=p at*
   have e1:a1+p*s+q*(a2+p*dl.getD j 0)+p*cn=a3+p*V.getD j 0+p*W64*(hi+k+e)+p*cn:=by
    have:p*(s+q*dl.getD j 0+cn)=p*(V.getD j 0+W64*(hi+k+e)):=by rw [st3]
    grind
   exact Nat.add_right_cancel e1
  ·have:j=m:=om;subst this;exact⟨cn,P,rfl,hcn,hP,ho,by rw [←hD,←aJ (l:=dl) (k:=j) om];exact hv,e2⟩
 rintro c3 w6 ⟨cn,P,rfl,hcn,hP,ho,hv,e6⟩;refine ho.rd.ixW (k:=m) rfl (by rw [lF P m hP om];omega) om ?_;rw [gF P m hP om];refine mE (a:=V.getD m 0) (b:=cn) (d:=0) rfl rfl rfl dcd (gVl m) hcn λs e hs he hse=>?_
 refine ho.storeW (k:=m) rfl (by rw [lF P m hP om];omega) om hs rfl λw7 ho7 e7=>?_
 rw [sF P m s hP om,show V.drop (m+1)=[] from List.drop_of_length_le om,List.nil_append] at ho7;have e17:=e6.trans e7
 have hv1:vl W64 (P++[s])+q*D=U+W64^(m+1)*e:=by
  have h3:=aj W64 V m;rw [aJ om,hUe] at h3;rw [gG,hP,Nat.pow_succ,h3];generalize vl W64 P=a1 at*;generalize vl W64 (V.take m)=a3 at*;generalize W64^m=p at*;have st3:s+cn=V.getD m 0+W64*e:=by rw [w64];omega
  have:a1+p*s+q*D+p*cn=a3+p*V.getD m 0+p*W64*e+p*cn:=by
   have:p*(s+cn)=p*(V.getD m 0+W64*e):=by rw [st3]
   grind
  exact Nat.add_right_cancel this
 obtain⟨V1,hV1⟩:∃V1,P++[s]=V1:=⟨_,rfl⟩;have hV1l:V1.length=m+1:=by rw [←hV1];simp [hP]
 rw [hV1] at ho7 hv1
 have i0:e=0→vl W64 V1=U%D∧q=U/D:=by
  rintro rfl;rw [Nat.mul_zero,Nat.add_zero] at hv1;exact acH hv1 hqge hD0
 have i1:e=1→vl W64 V1+q*D=U+W64^(m+1)∧U/D<q:=by
  rintro rfl;rw [Nat.mul_one] at hv1;refine⟨hv1,(Nat.div_lt_iff_lt_mul hD0).2 ?_⟩;have:=jQ ho7.sm.mid;rw [hV1l] at this;omega
 clear hv1 hse hs hV1 hv ho e7 gF sF lF hP P hcn cn s e6;refine j1 (λ(x:Int) w8=>∃V',Ow w8 B f (A++(V'++C))∧V'.length=m+1∧vl W64 V'=U%D∧x=(U/D:Nat)∧Ext (λc=>f.blk=some c) w1 w8) ?_ ?_
 ·refine lp2 (λM (x k:Int) w8=>∃(qn kn:Nat) (V1:List Nat),x=qn∧k=kn∧M=qn+kn∧kn≤1∧qn<W64∧V1.length=m+1∧Ow w8 B f (A++(V1++C))∧(kn=0→vl W64 V1=U%D∧qn=U/D)∧(kn=1→vl W64 V1+qn*D=U+W64^(m+1)∧U/D<qn)∧Ext (λc=>f.blk=some c) w1 w8) (q+e) ⟨q,e,V1,rfl,rfl,rfl,he,hqW',hV1l,ho7,i0,i1,e17⟩ ?_;clear i0 i1 e17 ho7 hV1l hqge hqW' he;rintro M x k w8 ⟨q,kn,V1,rfl,rfl,rfl,hkn,hqW,hV1,ho8,i0,i1,e8⟩;refine aG (λh=>?_) (λh=>?_)
  ·have hk1:kn=1:=by simp only [bne_iff_ne,ne_eq] at h;omega
   subst hk1;obtain⟨hv,hqlt⟩:=i1 rfl;have hq0:0<q:=Nat.lt_of_le_of_lt (Nat.zero_le _) hqlt;clear i0 i1 h;refine ai (y:=q-1) om om ?_;have sV1:Sm W64 V1:=ho8.sm.mid;have gVl:∀k,V1.getD k 0<18446744073709551616:=λk=>sV1.getD dcd k
   have gF:∀(P:List Nat) (k:Nat),P.length=k→k≤m→(A++(P++(V1.drop k++C))).getD (A.length+k) 0=V1.getD k 0:=λP k hP hk=>by
    rw [kb om,List.cons_append];subst hP;exact vK
   have sF:∀(P:List Nat) (k x:Nat),P.length=k→k≤m→(A++(P++(V1.drop k++C))).set (A.length+k) x=A++((P++[x])++(V1.drop (k+1)++C)):=λP k x hP hk=>by
    rw [kb om,List.cons_append];subst hP;exact wZ
   have lF:∀(P:List Nat) (k:Nat),P.length=k→k≤m+1→(A++(P++(V1.drop k++C))).length=A.length+(m+1)+C.length:=λP k hP hk=>by simp;omega
   refine j1 (λ(c:Int) w9=>∃(cn:Nat) (P:List Nat),c=cn∧cn≤1∧P.length=m∧Ow w9 B f (A++(P++(V1.drop m++C)))∧vl W64 P+W64^m*cn=vl W64 (V1.take m)+D∧Ext (λc=>f.blk=some c) w1 w9) ?_ ?_
   ·refine lp2 (λM (c i:Int) w9=>∃(j cn:Nat) (P:List Nat),i=j∧c=cn∧cn≤1∧M=m-j∧j≤m∧P.length=j∧Ow w9 B f (A++(P++(V1.drop j++C)))∧vl W64 P+W64^j*cn=vl W64 (V1.take j)+vl W64 (dl.take j)∧Ext (λc=>f.blk=some c) w1 w9) m ⟨0,0,[],rfl,rfl,dcd,rfl,om,rfl,ho8,by simp [vl],e8⟩ ?_;rintro M c i w9 ⟨j,cn,P,rfl,rfl,hcn,rfl,hj,hP,ho,hv9,e9⟩;refine ac (λh=>?_) (λh=>?_)
    ·have hjm:j<m:=om;have ho:=ho.drew;have hd2:=(hd1'.extX e9 hne).drew;refine ho.rd.ixW (k:=j) rfl (by rw [lF P j hP om];omega) om ?_;rw [gF P j hP hj];refine hd2.ix rfl om ?_;refine jf (a:=V1.getD j 0) (b:=dl.getD j 0) (d:=cn) rfl rfl rfl hcn (gVl j) (gdl j) λs e hs he hse=>?_
     refine ho.storeW (k:=j) rfl (by rw [lF P j hP om];omega) om hs rfl λw10 ho10 e10=>?_
     rw [sF P j s hP hj] at ho10;refine ab om om ⟨m-(j+1),om,j+1,e,P++[s],om,rfl,he,rfl,om,by simp [hP],ho10,?_,e9.drew.trans e10⟩;rw [gG,hP,aj,aj,Nat.pow_succ];have st:s+W64*e=V1.getD j 0+dl.getD j 0+cn:=hse;generalize vl W64 P=a1 at*;generalize vl W64 (dl.take j)=a2 at*;generalize vl W64 (V1.take j)=a3 at*;generalize W64^j=p at*;have e1:p*(s+W64*e)=p*(V1.getD j 0+dl.getD j 0+cn):=by rw [st]
     grind
    ·have:j=m:=om;subst this;exact⟨cn,P,rfl,hcn,hP,ho,by rw [←hD,←aJ (l:=dl) (k:=j) om];exact hv9,e9⟩
   rintro c7 w11 ⟨cn,P,rfl,hcn,hP,ho,hR,e11⟩;refine ho.rd.ixW (k:=m) rfl (by rw [lF P m hP om];omega) om ?_;rw [gF P m hP om];refine jf (a:=V1.getD m 0) (b:=0) (d:=cn) rfl rfl rfl hcn (gVl m) dcd λs e hs he hse=>?_
   refine ho.storeW (k:=m) rfl (by rw [lF P m hP om];omega) om hs rfl λw12 ho12 e12=>?_
   rw [sF P m s hP om,show V1.drop (m+1)=[] from List.drop_of_length_le om,List.nil_append] at ho12
   have hR2:vl W64 (P++[s])+W64^(m+1)*e=vl W64 V1+D:=by
    have h3:=aj W64 V1 m;rw [aJ om] at h3;rw [gG,hP,Nat.pow_succ,h3];have st:s+W64*e=V1.getD m 0+cn:=by rw [w64];omega
    generalize vl W64 P=a1 at*;generalize vl W64 (V1.take m)=a3 at*;generalize W64^m=p at*;have e1:p*(s+W64*e)=p*(V1.getD m 0+cn):=by rw [st]
    grind
   have l1:=jQ ho12.sm.mid;have l2:=jQ sV1;rw [hV1] at l2;rw [List.length_append,List.length_singleton,hP] at l1;have key:=acI hv hR2 hqlt hD0 l1 l2 he;refine ai (y:=1-e) om (by have:=w64;omega) ⟨q-1+(1-e),om,q-1,1-e,P++[s],rfl,rfl,rfl,om,om,by simp [hP],ho12,λh=>key.1 om,λh=>key.2 om,e11.trans e12⟩
  ·have hk0:kn=0:=by simp only [bne_eq_false_iff_eq] at h;omega
   obtain⟨g1,g2⟩:=i0 hk0;exact⟨V1,ho8,hV1,g1,by rw [g2],e8⟩
 rintro x w8 ⟨V',ho8,hl',g1,rfl,e8⟩;exact rt1 (c:=.int .u64) _ (((Ext.refl _ _).drew.trans e1.any).trans e8) ⟨V',ho8.at,hl',g1,rfl⟩
end
section
variable {k m y:Nat}
theorem ry{l:List Nat}(h:Sm W64 l)(hm:sz (vl W64 l)=m+1):l.getD m 0=vl W64 l/W64^m:=by
 have h1:=df h;have h2:=(bQ h m).1;have h3:=(bQ h (m+1)).1;have h4:=gN (vl W64 l);rw [hm] at h4;rw [Nat.div_eq_of_lt h4] at h3;rw [kb om,de,h3] at h2;omega
theorem nrm(hm:sz y=m+1){s:Nat}(hs:s=64-bl (y/W64^m)):s<64∧9223372036854775808*W64^m≤y*2^s∧y*2^s<W64^(m+1):=by
 have hy:0<y:=by
  rcases Nat.eq_zero_or_pos y with h|h
  ·subst h;simp [sz,az] at hm
  ·exact h
 have h1:=gN y;have h2:=xQ hy;rw [hm] at h1 h2;rw [Nat.add_sub_cancel] at h2;have hp:0<W64^m:=Nat.pow_pos dcd;obtain⟨t,ht⟩:∃t,y/W64^m=t:=⟨_,rfl⟩;rw [ht] at hs;have t1:1≤t:=by rw [←ht];exact (Nat.le_div_iff_mul_le hp).2 om
 have t2:t<W64:=by rw [←ht];exact (Nat.div_lt_iff_lt_mul hp).2 (by rw [Nat.pow_succ,Nat.mul_comm] at h1;exact h1)
 have b1:=fr t;have b2:=qG t1;have b3:=nO t1;have b4:bl t≤64:=aY (by exact t2);have y1:t*W64^m≤y:=by rw [←ht];exact Nat.div_mul_le_self _ _
 have y2:y<(t+1)*W64^m:=by
  rw [←ht];have:=Nat.lt_mul_div_succ y hp;rwa [Nat.mul_comm]
 have e1:2^bl t*2^s=18446744073709551616:=by rw [←Nat.pow_add,hs,show bl t+(64-bl t)=64 by omega]
 have e2:2^(bl t-1)*2^s=9223372036854775808:=by rw [←Nat.pow_add,hs,show bl t-1+(64-bl t)=63 by omega]
 refine⟨om,?_,?_⟩
 ·rw [←e2]
  calc 2^(bl t-1)*2^s*W64^m≤t*2^s*W64^m:=Nat.mul_le_mul_right _ (Nat.mul_le_mul_right _ b2)
   _=t*W64^m*2^s:=by rw [Nat.mul_assoc,Nat.mul_assoc,Nat.mul_comm (2^s)]
   _≤_:=Nat.mul_le_mul_right _ y1
 ·have h5:y*2^s<(t+1)*W64^m*2^s:=Nat.mul_lt_mul_of_pos_right y2 (Nat.pow_pos dcd);have h6:(t+1)*W64^m*2^s≤2^bl t*W64^m*2^s:=Nat.mul_le_mul_right _ (Nat.mul_le_mul_right _ b1);have h7:2^bl t*W64^m*2^s=W64^(m+1):=by rw [Nat.mul_assoc,Nat.mul_comm (W64^m),←Nat.mul_assoc,e1,Nat.pow_succ,Nat.mul_comm]
  omega
theorem zK{W A V C V' X D q Z Y T:Nat}(hk:Z=k*W)(h:A+k*(V+Y*C)+D*Z*X=T)(hV:V'+q*D=V):A+k*(V'+Y*C)+D*k*(q+W*X)=T:=by
 subst hk hV;rw [←h];grind
theorem mH{w:TW}{p:Option Addr}{c d e t:Nat}{now:Int}{tab:List Int}{a b:Sl}{x:Nat}(hE:Eg w p [c,m,d,k,e] t now tab)(ha:Nt w a x)(hb:Nt w b y)(hx:sz x≤1048576):
  Ct Pg F.bL [.pointer p,a.v,b.v] w (λk=>k=t) [.one .slice,.one .slice,.one (.int .i64)] λ(q r:Sl)(err:Int) w'=>On w' w.w.heap.size q (x/y)∧On w' w.w.heap.size r (if y=0 then 0 else x%y)∧err=(if y=0 then 2 else 0:Nat)∧Eg w' p [c,m,d,k,e] t now tab:=by
 refine Ct.bL ?_;unfold Sh.bL;obtain⟨la,ha0,rfl⟩:=ha;obtain⟨lb,hb0,rfl⟩:=hb;refine c1 (api_Nat_Len ha0.here) ?_;rintro _ w1 e1 rfl;refine c1 (api_Nat_Len (hb0.here.ext e1)) ?_;rintro _ w2 e2 rfl;have e:=e1.trans e2;have ha:=ha0.here.ext e;have hb:=hb0.here.ext e;have hE2:=hE.here.ext e;obtain⟨x,hxe⟩:∃x,vl W64 la=x:=⟨_,rfl⟩;obtain⟨y,hye⟩:∃y,vl W64 lb=y:=⟨_,rfl⟩;have hna:=ha.nt;have hnb:=hb.nt;rw [hxe] at hna hx ⊢;rw [hye] at hnb ⊢
 have y0:sz y=0↔y=0:=by
  constructor
  ·intro h;have:=gN y;rw [h,Nat.pow_zero] at this;omega
  ·rintro rfl;simp [sz,az]
 refine aG (λh=>?_) (λh=>?_)
 ·simp only [beq_iff_eq] at h;have hy:y=0:=y0.1 om;subst hy;exact rt3 (c:=.slice) (d:=.slice) (e:=.int .i64) Sl.nil Sl.nil 2 e.any ⟨by rw [Nat.div_zero];exact On.nil _ _,On.nil _ _,rfl,hE2.at⟩
 have hy0:y≠0:=λh'=>by rw [y0.2 h'] at h;simp at h
 have hsy:sz y≠0:=λh'=>hy0 (y0.1 h')
 rw [if_neg hy0,if_neg hy0];refine ac (λh=>?_) (λh=>?_)
 ·have hlt:x<y:=by
   rcases Nat.lt_or_ge x y with h'|h'
   ·exact h'
   ·have:=aq h';omega
  refine c1 (limb_Norm hna om) ?_;intro s w3 e3 h3;exact rt3 (c:=.slice) (d:=.slice) (e:=.int .i64) Sl.nil _ 0 (e.trans e3).any ⟨by rw [Nat.div_eq_of_lt hlt];exact On.nil _ _,by rw [Nat.mod_eq_of_lt hlt];exact (h3.less e.size).at,rfl,(hE2.ext e3).at⟩
 refine hE2.down λq1 E1=>E1.down λq2 E2=>E2.down λq3 E3=>E3.down λq4 E4=>E4.down λq5 E5=>?_
 have hq:q5=some ⟨t,0,none⟩:=E5.1;subst hq;obtain⟨_,_,_,_,m5,d5,hT⟩:=E5;clear E1 E2 E3 E4 q1 q2 q3 q4;refine ah (fV (fV (fV (fV ?_))));refine t1 hT.tz (jw hT) ?_;rintro _ w4 x4 ⟨-,hT4⟩;have hE4:=hE2.set x4 hT4;have ha:=ha.extT hT.tz x4;have hb:=hb.extT hT.tz x4;have hna:=ha.nt;have hnb:=hb.nt;rw [hxe] at hna;rw [hye] at hnb;have e:=(e.any (X:=λk=>k=t)).trans x4;clear hE2 hT hT4 x4 e1 e2;obtain⟨N,hN⟩:∃N,sz x=N:=⟨_,rfl⟩;obtain⟨M,hM⟩:∃M,sz y=M+1:=⟨sz y-1,om⟩;rw [hN] at hx h ⊢;rw [hM] at h ⊢;have lb1:=df hb.sm;rw [hye,hM] at lb1;have htop:=ry hb.sm (m:=M) (by rw [hye];exact hM);rw [hye] at htop;refine aG (λh1=>?_) (λh1=>?_)
 ·simp only [beq_iff_eq] at h1;have hM0:M=0:=om;subst hM0;rw [Nat.pow_zero,Nat.div_one] at htop;refine hb.ix (j:=0) rfl om ?_;rw [htop];have hyW:y<W64:=by have:=gN y;rwa [hM,Nat.zero_add,Nat.pow_one] at this
  refine c3 (limb_DivWord hna hyW om) ?_;rintro s r er w5 e5 ⟨g1,rfl,-⟩;rw [if_neg hy0];refine c1 (limb_One (Nat.lt_of_lt_of_le (Nat.mod_lt _ om) (Nat.le_of_lt hyW))) ?_;intro s2 w6 e6 g2;exact rt3 (c:=.slice) (d:=.slice) (e:=.int .i64) _ _ 0 (e.trans (e5.trans e6).any) ⟨((g1.ext e6).less e.size).at,(g2.less (Nat.le_trans e.size e5.size)).at,rfl,((hE4.ext e5).ext e6).at⟩
 simp only [beq_eq_false_iff_ne,ne_eq] at h1;have hM1:1≤M:=om;refine ag (y:=(M:Int)) (by rw [ar om om];omega) (hb.ix (j:=M) rfl om ?_);rw [htop];have htW:y/W64^M<W64:=by rw [←htop];exact hb.lt M
 refine c1 (bits_LeadingZeros64 htW) ?_;rintro _ w5 e5 rfl;obtain⟨s,hs⟩:∃s,s=64-bl (y/W64^M):=⟨_,rfl⟩;rw [←hs];obtain⟨s64,hD1,hD2⟩:=nrm hM hs;have hmin:min ((s:Int)).toNat 1048576=s:=om;refine c1 (limb_Shl (hnb.ext e5) om) ?_;intro sd w6 e6 hd;rw [hmin] at hd;obtain⟨D,hDe⟩:∃D,y*2^s=D:=⟨_,rfl⟩;rw [hDe] at hd hD1 hD2;have ss:2^s≤W64:=by rw [show W64=2^64 from rfl];exact Nat.pow_le_pow_right dcd om
 have s0:0<2^s:=Nat.pow_pos dcd
 have hDM:W64^M≤D:=by
  have:1*W64^M≤9223372036854775808*W64^M:=Nat.mul_le_mul_right _ dcd;omega
 have hszD:sz D=M+1:=adX hDM hD2;have hxN:=gN x;rw [hN] at hxN
 have hXl:x*2^s<W64^(N+1):=by
  rw [Nat.pow_succ];exact Nat.lt_of_lt_of_le (Nat.mul_lt_mul_of_pos_right hxN s0) (Nat.mul_le_mul_left _ ss)
 refine ab om om (bW (N:=N+1) om om λu w7 hu _ e7 hub=>?_);have e47:=(e5.trans e6).trans e7;refine c1 (limb_Shl (hna.ext e47) om) ?_;intro sx w8 e8 hsx;rw [hmin] at hsx;obtain⟨X,hXe⟩:∃X,x*2^s=X:=⟨_,rfl⟩;rw [hXe] at hsx hXl;have hszX:=cQ hXl;refine (hu.ext e8).cpy hsx.rd (by rw [aA,List.length_replicate];exact hszX) λw9 hu9 x9=>?_
 have hud:∀k,sd.blk=some k→¬u.blk=some k:=λk hk hk'=>by
  rw [hub] at hk';cases hk';have:=(hd.from_ _ hk).2;omega
 have e48:=e47.trans e8;have z4:w4.w.heap.size≤w6.w.heap.size:=(e5.trans e6).size;have e49:Ext aa w4 w9:=e48.own x9 λk hk=>by rw [hub] at hk;cases hk;exact z4
 have hd9:=(((Ow.ext hd e7).ext e8).extX x9 hud);obtain⟨F0,hF0⟩:∃F0,dg W64 X++(List.replicate (N+1) 0).drop (dg W64 X).length=F0:=⟨_,rfl⟩;rw [hF0] at hu9;have hF0l:F0.length=N+1:=by rw [←hF0,List.length_append,List.length_drop,List.length_replicate,aA];omega
 have hF0v:vl W64 F0=X:=by rw [←hF0,List.drop_replicate,dY,aV W2,jP,Nat.mul_zero,Nat.add_zero]
 clear hF0;obtain⟨dl,hdl⟩:∃dl,dg W64 D=dl:=⟨_,rfl⟩;have hdlv:vl W64 dl=D:=by rw [←hdl];exact aV W2 D
 have hdll:dl.length=M+1:=by rw [←hdl];exact hszD
 have hdr:Rd w9 sd dl:=by rw [←hdl];exact hd9.rd
 have htd:=ry hdr.sm (m:=M) (by rw [hdlv];exact hszD);rw [hdlv] at htd;have htd63:9223372036854775808≤dl.getD M 0:=by rw [htd];exact (Nat.le_div_iff_mul_le (Nat.pow_pos dcd)).2 hD1
 refine ag (y:=(M:Int)) (by rw [ar om om];omega) (hdr.drew.ix (j:=M) rfl om ?_);refine ag (y:=((M-1:Nat):Int)) (by rw [ar om om];omega) (hdr.drew.ix (j:=M-1) rfl om ?_);refine c2 (word_Inverse2 (hdr.lt M) htd63 (hdr.lt (M-1))) ?_;rintro _ ok w10 e10 ⟨-,v,rfl,hv⟩;obtain⟨L,hL⟩:∃L,N-M=L:=⟨_,rfl⟩;refine ab om om (ag (y:=(L:Int)) (by rw [ar om om];omega) (bW (N:=L) rfl om λxq w11 hxq _ e11 hxb=>?_));refine ag (y:=(L:Int)-1) (by rw [ar om om];omega) ?_;have hu11:=(Ow.drew hu9).ext (e10.trans e11);have hd11:=hdr.drew.ext (e10.trans e11);have e411:Ext aa w4 w11:=(e49.drew.trans e10).trans e11;have z9:w9.w.heap.size≤w10.w.heap.size:=e10.size
 have hux:∀k,u.blk=some k→¬xq.blk=some k:=λk hk hk'=>by
  rw [hxb] at hk';cases hk';have h1:=(hu9.from_ _ hk).2;omega
 have hdx:∀k,sd.blk=some k→¬xq.blk=some k:=λk hk hk'=>by
  rw [hxb] at hk';cases hk';have h1:=(hd9.from_ _ hk).2;omega
 have hu4:∀k,u.blk=some k→w4.w.heap.size≤k:=λk hk=>by rw [hub] at hk;cases hk;exact z4
 have hx4:∀k,xq.blk=some k→w4.w.heap.size≤k:=λk hk=>by rw [hxb] at hk;cases hk;exact Nat.le_trans e49.size z9
 clear e7 e8 e10 e11 x9 hu hsx hd hd9 hu9 hdr e47 e48 e49 hub hxb hszX;refine j0 (λw12=>∃(Fu Xs:List Nat),Ow w12 w6.w.heap.size u Fu∧Ow w12 w10.w.heap.size xq Xs∧vl W64 Fu+D*vl W64 Xs=X∧vl W64 Fu<D∧Ext aa w4 w12) ?_ ?_
 ·refine lp1 (λM' (i:Int) w12=>∃(k:Nat) (Fu Xs:List Nat),i=(k:Int)-1∧M'=k∧k≤L∧Ow w12 w6.w.heap.size u Fu∧Fu.length=N+1∧Ow w12 w10.w.heap.size xq (List.replicate k 0++Xs)∧Xs.length=L-k∧vl W64 Fu+D*W64^k*vl W64 Xs=X∧vl W64 (Fu.drop k)<D∧Rd w12 sd dl∧Ext aa w4 w12) L ⟨L,F0,[],rfl,rfl,Nat.le_refl _,hu11,hF0l,by rw [List.append_nil];exact hxq,smp,by simp [vl,hF0v],?_,hd11,e411⟩ ?_
  ·rw [(bQ hu11.sm L).1,hF0v];refine (Nat.div_lt_iff_lt_mul (Nat.pow_pos dcd)).2 ?_;have h1:X<W64^N*2^s:=by rw [←hXe];exact Nat.mul_lt_mul_of_pos_right hxN s0
   have h2:W64^M*2^s≤D:=by
    rw [←hDe];refine Nat.mul_le_mul_right _ ?_;have:=xQ (Nat.pos_of_ne_zero hy0);rwa [hM,Nat.add_sub_cancel] at this
   have h3:W64^N*2^s=W64^M*2^s*W64^L:=by
    rw [←hL,Nat.mul_assoc,Nat.mul_comm (2^s),←Nat.mul_assoc,←Nat.pow_add,show M+(N-M)=N by omega]
   rw [h3] at h1;exact Nat.lt_of_lt_of_le h1 (Nat.mul_le_mul_right _ h2)
  rintro K i w12 ⟨_,Fu,Xs,rfl,rfl,hk,hu,hFl,hxs,hXl',hv',htp,hd12,e12⟩;refine ac (λh=>?_) (λh=>?_)
  ·obtain⟨J,rfl⟩:∃J,K=J+1:=⟨K-1,om⟩;have hn1:((J+1:Nat):Int)-1=(J:Int):=om;rw [hn1];refine ag (y:=((J+(M+1):Nat):Int)) (by rw [ar om om];omega) (ag (y:=((J+(M+1)+1:Nat):Int)) (by rw [ar om om];omega) ?_);have cu:=hu.rd.cap;refine⟨om,om,om,?_⟩;rw [Int.toNat_natCast,Int.toNat_natCast];obtain⟨A,hA⟩:∃A,Fu.take J=A:=⟨_,rfl⟩;obtain⟨V,hV⟩:∃V,(Fu.drop J).take (M+1+1)=V:=⟨_,rfl⟩;obtain⟨C,hC⟩:∃C,Fu.drop (J+(M+1+1))=C:=⟨_,rfl⟩;have hAl:A.length=J:=by rw [←hA,List.length_take];omega
   have hVl:V.length=M+1+1:=by rw [←hV,List.length_take,List.length_drop];omega
   have hCl:C.length=N+1-(J+(M+1+1)):=by rw [←hC,List.length_drop];omega
   have hFu:Fu=A++(V++C):=by
    rw [←hA,←hV,←hC,←List.drop_drop,List.take_append_drop,List.take_append_drop]
   have hdJ:Fu.drop J=V++C:=by rw [←hV,←hC,←List.drop_drop,List.take_append_drop]
   have hlow:vl W64 (Fu.drop J)=Fu.getD J 0+W64*vl W64 (Fu.drop (J+1)):=by rw [kb om,de]
   have hgJ:=hu.rd.lt J
   have hVC:vl W64 V+W64^(M+1+1)*vl W64 C<D*W64:=by
    have:=Nat.mul_le_mul_left W64 (show vl W64 (Fu.drop (J+1))+1≤D from htp);rw [Nat.mul_add,Nat.mul_one] at this;have h2:vl W64 V+W64^(M+1+1)*vl W64 C=vl W64 (Fu.drop J):=by rw [hdJ,dY,hVl]
    rw [h2,hlow,Nat.mul_comm D];have:=w64;omega
   have hC0:vl W64 C=0:=by
    rcases Nat.eq_zero_or_pos (vl W64 C) with h|h
    ·exact h
    ·have h1:=Nat.mul_le_mul_left (W64^(M+1+1)) (show 1≤vl W64 C from h);rw [Nat.mul_one] at h1;have h2:D*W64≤W64^(M+1)*W64:=Nat.mul_le_mul_right _ (Nat.le_of_lt hD2);rw [←Nat.pow_succ] at h2;exact absurd (Nat.lt_of_le_of_lt (Nat.le_trans h1 (Nat.le_add_left _ _)) (Nat.lt_of_lt_of_le hVC h2)) (Nat.lt_irrefl _)
   rw [hFu] at hu;have hdig:=divs_digit (A:=A) (V:=V) (C:=C) (dl:=dl) (m:=M+1) hu hd12 hVl hdll om hud htd63 hv (by rw [hdlv];omega);rw [hdlv,hAl,Nat.add_assoc] at hdig;refine gW hdig (λc hc=>hu.ow.2 c hc) ?_;rintro r w13 x13 ⟨V',hu13,hVl',hvV',rfl⟩;have e13:=e12.own x13 hu4;have hxs13:=hxs.extX x13 λc hc h'=>hux c h' hc
   have hqW:vl W64 V/D<W64:=(Nat.div_lt_iff_lt_mul om).2 (by rw [Nat.mul_comm];omega);refine hxs13.store (j:=J) rfl (by simp only [List.length_append,List.length_replicate];omega) hqW rfl λw14 hxs14 x14=>?_
   have e14:=e13.own x14 hx4;have hu14:=hu13.extX x14 hux;have hd14:=(hd12.extX x13 hud).extX x14 hdx;refine ab om om ⟨J,om,J,A++(V'++C),vl W64 V/D::Xs,rfl,rfl,om,hu14,by simp;omega,?_,by simp;omega,?_,?_,hd14,e14⟩
   ·have:(List.replicate (J+1) 0++Xs).set J (vl W64 V/D)=List.replicate J 0++vl W64 V/D::Xs:=by
     rw [show List.replicate (J+1) 0++Xs=List.replicate J 0++(0::Xs) by rw [List.replicate_succ'];simp];rw [List.set_append_right _ _ smp,List.length_replicate,Nat.sub_self];rfl
    rwa [this] at hxs14
   ·rw [hFu,dY,dY,hVl,hAl] at hv';rw [dY,dY,hVl',hAl,de];exact zK (by rw [Nat.pow_succ]) hv' (by rw [hvV',Nat.mul_comm (_/_)];exact Nat.mod_add_div _ _)
   ·rw [List.drop_append_of_le_length om,List.drop_of_length_le om,List.nil_append,dY,hC0,Nat.mul_zero,Nat.add_zero,hvV'];exact Nat.mod_lt _ om
  ·have:K=0:=om;subst this;exact⟨Fu,Xs,hu,by simpa using hxs,by simpa using hv',by simpa using htp,e12⟩
 rintro w12 ⟨Fu,Xs,hu,hxs,hv',hlt,e12⟩
 have hdm:x/y=vl W64 Xs∧x%y*2^s=vl W64 Fu:=by
  have h1:X/D=vl W64 Xs:=by rw [←hv',Nat.add_mul_div_left _ _ om,Nat.div_eq_of_lt hlt,Nat.zero_add]
  have h2:X%D=vl W64 Fu:=by rw [←hv',Nat.add_mul_mod_self_left,Nat.mod_eq_of_lt hlt]
  rw [←hXe,←hDe] at h1 h2;rw [Nat.mul_div_mul_right _ _ s0] at h1;rw [Nat.mul_mod_mul_right] at h2;exact⟨h1,h2⟩
 refine c1 (limb_Norm hxs.rd.nt ?_) ?_
 ·rw [←hdm.1];have:=aq (Nat.div_le_self x y);omega
 intro sq w13 e13 hq;refine c1 (limb_Shr (hu.rd.nt.ext e13) ?_) ?_
 ·have:=aq (Nat.le_of_lt hlt);omega
 intro sr w14 e14 hr;rw [hmin,←hdm.2,Nat.mul_div_cancel _ s0] at hr;rw [←hdm.1] at hq;have e414:=(e12.trans e13).trans e14;exact rt3 (c:=.slice) (d:=.slice) (e:=.int .i64) _ _ 0 (e.trans e414.any) ⟨((hq.ext e14).less (Nat.le_trans e.size e12.size)).at,(hr.less (Nat.le_trans e.size (Nat.le_trans e12.size e13.size))).at,rfl,(hE4.ext e414).at⟩
end
end Go.Proofs.YtpbimnlggalnfaaGreatDoor.Zg
