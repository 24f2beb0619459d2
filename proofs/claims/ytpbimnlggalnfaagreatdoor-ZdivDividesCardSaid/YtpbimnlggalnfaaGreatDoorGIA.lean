/- A part of the proofs of this seat's laws. -/
import Derived.Test.YtpbimnlggalnfaaGreatDoorGKC
import Derived.Test.YtpbimnlggalnfaaGreatDoorGP4
import Derived.Test.YtpbimnlggalnfaaGreatDoorGQ
import Derived.Test.YtpbimnlggalnfaaGreatDoorGP2
import Derived.Test.YtpbimnlggalnfaaGreatDoorGP3
set_option linter.unusedVariables false
set_option linter.unusedSimpArgs false
set_option linter.unnecessarySimpa false
namespace Go.Proofs.YtpbimnlggalnfaaGreatDoor.Zg
open Go.RowKit
section
variable {w:TW} {a b s:Sl} {na nb neg:Bool} {y z:Int} {x:Nat}
def Zr(w:TW)(s:Sl)(neg:Bool)(z:Int):Prop:=Dr w s z.natAbs∧neg=decide (z<0)
theorem Zr.ext{w':TW}(h:Zr w s neg z)(e:Ext aa w w'):Zr w' s neg z:=⟨h.1.ext e,h.2⟩
theorem Zr.at{k:Nat}(h:Zr w s neg z):Zr (w.at k) s neg z:=⟨Rd.at_ h.1,h.2⟩
theorem lH(h:Dr w s x):Ct Pg F.aU [s.v,.bool neg] w aa [.agg [.slice,.bool]] λ(s':Sl)(neg':Bool) w'=>Zr w' s' neg' (if neg then -(x:Int) else x)∧s'=s:=by
 refine Ct.aU ?_;unfold Sh.aU;intro w1 e1;refine j2 (λ(s':Sl)(neg':Bool) w'=>Zr w' s' neg' (if neg then -(x:Int) else x)∧Ext aa w.here w'∧s'=s) ?_ ?_
 ·cases neg with
  | true=>
   refine aQ rfl (c1 (uV (h.here.ext e1)) ?_);rintro r w2 e2 rfl;intro w3 e3;refine⟨⟨?_,?_⟩,(e1.trans e2).trans e3,rfl⟩
   ·rw [if_pos rfl,Int.natAbs_neg,Int.natAbs_natCast];exact ((h.here.ext e1).ext e2).ext e3
   ·rw [if_pos rfl];by_cases hx:x=0
    ·simp [hx]
    ·simp [hx];omega
  | false=>
   refine ap rfl λw2 e2=>⟨⟨(h.here.ext e1).ext e2,smp⟩,e1.trans e2,rfl⟩
 rintro s' neg' w' ⟨hz,e,he⟩;exact⟨(s',neg',()),rfl,e,hz.at,he⟩
theorem zo{x:Int}(ha:Zr w a na x)(hb:Zr w b nb y)(hx:dz x.natAbs≤274877906944)(hy:dz y.natAbs≤274877906944):Ct Pg F.dC [.agg #[a.v,.bool na],.agg #[b.v,.bool nb]] w aa [.agg [.slice,.bool]] λ(s':Sl)(neg':Bool) w'=>Zr w' s' neg' (x+y)∧∀c,s'.blk=some c→w.w.heap.size≤c:=by
 refine Ct.dC ?_;unfold Sh.dC;intro w1 e1 w2 e2 w3 e3;have e:=(e1.trans e2).trans e3;have ga:=ha.1.here.ext e;have gb:=hb.1.here.ext e;have na':=ha.2;have nb':=hb.2;clear e1 e2 e3;refine aG (λh=>?_) (λh=>?_)
 ·have hab:na=nb:=by simpa using h
  refine c1 (aci (Dr.ext ga (Ext.refl _ _).drew) (Dr.ext gb (Ext.refl _ _).drew) hx hy) λs w4 e4 h4=>?_
  refine cl0 (lH (neg:=na) h4.dr) ?_;intro r r1 w5 e5 hr;obtain⟨hr,hrs⟩:=hr;have hr:Zr w5 r r1 (if na then -((x.natAbs+y.natAbs:Nat):Int) else (x.natAbs+y.natAbs:Nat)):=hr;intro w6 e6;refine⟨(r,r1,()),rfl,((e.drew.trans e4).trans e5).trans e6,?_,λc hc=>by rw [hrs] at hc;exact Nat.le_trans e.size (Ow.blk_le h4 c hc)⟩
  have:(if na then -((x.natAbs+y.natAbs:Nat):Int) else (x.natAbs+y.natAbs:Nat))=x+y:=by
   rw [nb'] at hab;rw [na'] at hab ⊢;by_cases h0:x<0
   ·have:y<0:=by simpa [h0] using hab
    simp [h0];omega
   ·have:¬y<0:=by simpa [h0] using hab
    simp [h0];omega
  rw [this] at hr;exact (hr.ext e6).at
 ·have hab:na≠nb:=by simpa using h
  refine c1 (ach ga gb) ?_;rintro r w4 e4 rfl;have hd:(decide (ij x.natAbs y.natAbs≥0))=decide (y.natAbs≤x.natAbs):=adI;have ga:=Dr.ext (ga.ext e4) (Ext.refl _ _).drew;have gb:=Dr.ext (gb.ext e4) (Ext.refl _ _).drew;have e:=(e.trans e4).drew;by_cases hle:y.natAbs≤x.natAbs
  ·refine aQ (by rw [hd];simpa using hle) ?_;refine c1 (xb ga gb hx hle) λs w5 e5 h5=>?_
   refine cl0 (lH (neg:=na) h5.dr) ?_;intro r r1 w6 e6 hr;obtain⟨hr,hrs⟩:=hr;have hr:Zr w6 r r1 (if na then -((x.natAbs-y.natAbs:Nat):Int) else (x.natAbs-y.natAbs:Nat)):=hr;intro w7 e7;refine⟨(r,r1,()),rfl,((e.trans e5).trans e6).trans e7,?_,λc hc=>by rw [hrs] at hc;exact Nat.le_trans e.size (Ow.blk_le h5 c hc)⟩
   have:(if na then -((x.natAbs-y.natAbs:Nat):Int) else (x.natAbs-y.natAbs:Nat))=x+y:=by
    rw [nb'] at hab;rw [na'] at hab ⊢;by_cases h0:x<0
    ·have:¬y<0:=by simpa [h0] using hab
     simp [h0];omega
    ·have:y<0:=by simpa [h0] using hab
     simp [h0];omega
   rw [this] at hr;exact (hr.ext e7).at
  ·refine ap (by rw [hd];simpa using hle) ?_;refine c1 (xb gb ga hy om) λs w5 e5 h5=>?_
   refine cl0 (lH (neg:=nb) h5.dr) ?_;intro r r1 w6 e6 hr;obtain⟨hr,hrs⟩:=hr;have hr:Zr w6 r r1 (if nb then -((y.natAbs-x.natAbs:Nat):Int) else (y.natAbs-x.natAbs:Nat)):=hr;intro w7 e7;refine⟨(r,r1,()),rfl,((e.trans e5).trans e6).trans e7,?_,λc hc=>by rw [hrs] at hc;exact Nat.le_trans e.size (Ow.blk_le h5 c hc)⟩
   have:(if nb then -((y.natAbs-x.natAbs:Nat):Int) else (y.natAbs-x.natAbs:Nat))=x+y:=by
    rw [na'] at hab;rw [nb'] at hab ⊢;by_cases h0:y<0
    ·have:¬x<0:=by simpa [h0] using hab
     simp [h0];omega
    ·have:x<0:=by simpa [h0] using hab
     simp [h0];omega
   rw [this] at hr;exact (hr.ext e7).at
theorem zn{x:Int}(ha:Zr w a na x)(hb:Zr w b nb y)(hx:dz x.natAbs≤274877906944)(hy:dz y.natAbs≤274877906944):Ct Pg F.dB [.agg #[a.v,.bool na],.agg #[b.v,.bool nb]] w aa [.agg [.slice,.bool]] λ(s':Sl)(neg':Bool) w'=>Zr w' s' neg' (x*y)∧∀c,s'.blk=some c→w.w.heap.size≤c:=by
 refine Ct.dB ?_;unfold Sh.dB;intro w1 e1 w2 e2 w3 e3;have e:=((e1.trans e2).trans e3).drew;refine c1 (acg (ha.1.here.ext e) (hb.1.here.ext e) hx hy) λs w4 e4 h4=>?_
 refine cl0 (lH (neg:=!(na == nb)) h4.dr) ?_;intro r r1 w5 e5 hr;obtain⟨hr,hrs⟩:=hr;have hr:Zr w5 r r1 (if (!(na == nb)) then -((x.natAbs*y.natAbs:Nat):Int) else (x.natAbs*y.natAbs:Nat)):=hr;intro w6 e6;refine⟨(r,r1,()),rfl,((e.trans e4).trans e5).trans e6,?_,λc hc=>by rw [hrs] at hc;exact Nat.le_trans e.size (Ow.blk_le h4 c hc)⟩
 have:(if (!(na == nb)) then -((x.natAbs*y.natAbs:Nat):Int) else (x.natAbs*y.natAbs:Nat))=x*y:=by
  rw [ha.2,hb.2,←Int.natAbs_mul];by_cases h0:x<0
  ·by_cases h1:y<0
   ·have:=Int.mul_pos_of_neg_of_neg h0 h1;simp [h0,h1];omega
   ·have:=Int.mul_nonpos_of_nonpos_of_nonneg (Int.le_of_lt h0) (Int.not_lt.1 h1);simp [h0,h1];omega
  ·by_cases h1:y<0
   ·have:=Int.mul_nonpos_of_nonneg_of_nonpos (Int.not_lt.1 h0) (Int.le_of_lt h1);simp [h0,h1];omega
   ·have:=Int.mul_nonneg (Int.not_lt.1 h0) (Int.not_lt.1 h1);simp [h0,h1];omega
 rw [this] at hr;exact (hr.ext e6).at
theorem aaN(ha:Zr w a na z)(hx:dz z.natAbs≤274877906944):Ct Pg F.ej [.agg #[a.v,.bool na]] w aa [.agg [.slice,.bool]] λ(s':Sl)(neg':Bool) w'=>On w' w.w.heap.size s' z.natAbs∧neg'=decide (z<0):=by
 refine Ct.ej ?_;unfold Sh.ej;intro w1 e1 w2 e2;have e:=(e1.trans e2).drew;refine c1 (ac6 (ha.1.here.ext e) hx) λs w3 e3 h3=>?_
 intro w4 e4;exact⟨(s,na,()),rfl,(e.trans e3).trans e4,On.at (On.less (On.ext h3 e4) e.size),ha.2⟩
theorem abc{A B:Nat}{y:Nat}(ha:On w A a x)(hb:On w B b y)(hxy:x=y)(hn:na=nb):Ct Pg F.bA [.agg #[a.v,.bool na],.agg #[b.v,.bool nb]] w aa [.one .bool] λ(r:Bool) _=>r=true:=by
 subst hxy hn;refine Ct.bA ?_;unfold Sh.bA;intro w1 e1 w2 e2;have e:=e1.trans e2;have ga:=(Ow.rd ha).here.ext e;have gb:=(Ow.rd hb).here.ext e;refine j1 (λ(r:Bool) w'=>r=true∧Ext aa w.here w') ?_ ?_
 ·refine aQ smp (c1 (ua ga gb) ?_);rintro r w3 e3 rfl;exact⟨rfl,e.trans e3⟩
 rintro r w' ⟨rfl,f⟩;exact rt1 (c:=.bool) _ f rfl
end
section
variable {w:TW} {s x:Sl} {ts:List (Sl × Bool)} {i:Int} {B j:Nat} {K:TW→Prop} {e:TypeId} {vs:List Value} {y:Bool}
def iv(t:Sl × Bool):List Value:=[t.1.v,.bool t.2]
theorem gx(l:List (Sl × Bool)):(l.flatMap iv).length=2*l.length:=by
 induction l with
 | nil=>rfl
 | cons t l ih=>rw [List.flatMap_cons,List.length_append,ih,List.length_cons];simp [iv];omega
theorem qe:∀{l:List (Sl × Bool)} {i:Nat} (h:i<l.length),(l.flatMap iv)[2*i]?=some l[i].1.v∧(l.flatMap iv)[2*i+1]?=some (.bool l[i].2)
 | t::l,0,_=>⟨rfl,rfl⟩
 | t::l,i+1,h=>by
  have:=qe (l:=l) (i:=i) (by simpa using h);rw [List.flatMap_cons,show 2*(i+1)=2*i+2 by omega];simpa [iv] using this
theorem xo(l:List (Sl × Bool))(k:Nat):(l.flatMap iv).take (2*k)=(l.take k).flatMap iv:=by
 induction l generalizing k with
 | nil=>simp
 | cons t l ih=>
  cases k with
  | zero=>simp
  | succ k=>rw [show 2*(k+1)=2*k+2 by omega,List.take_succ_cons,List.flatMap_cons,List.flatMap_cons,←ih];simp [iv]
theorem acw(l:List (Sl × Bool))(k:Nat):(l.flatMap iv).drop (2*k)=(l.drop k).flatMap iv:=by
 induction l generalizing k with
 | nil=>simp
 | cons t l ih=>
  cases k with
  | zero=>simp
  | succ k=>rw [show 2*(k+1)=2*k+2 by omega,List.drop_succ_cons,List.flatMap_cons,←ih];simp [iv]
theorem zU(s:Sl)(b:Bool):∀(l:List (Sl × Bool)) (i:Nat),((l.flatMap iv).set (2*i) s.v).set (2*i+1) (.bool b)=(l.set i (s,b)).flatMap iv
 | [],i=>by simp
 | t::l,0=>by simp [iv]
 | t::l,i+1=>by
  have:=zU s b l i;rw [List.set_cons_succ,List.flatMap_cons,List.flatMap_cons,←this,show 2*(i+1)=2*i+2 by omega];simp [iv]
theorem eX(b o n:Nat):(⟨b,o,none⟩:Addr).add n=⟨b,o+n,none⟩:=by
 unfold Addr.add;split
 ·next h=>subst h;rfl
 ·rfl
theorem Rdv.at2(h:Rdv w 2 s (ts.flatMap iv))(hi:i=j)(hj:j<ts.length){K:Addr→Prop}(hK:∀a:Addr,w.w.cell? a=some ts[j].1.v→w.w.cell? (a.add 0)=some ts[j].1.v→w.w.cell? (a.add 1)=some (.bool ts[j].2)→K a):ixa s i 2 K:=by
 subst hi;obtain⟨h1,h2,h3,h4⟩:=h;rw [gx] at h1;obtain⟨b,o,hp,hV,hc⟩:=h4 (λe=>by have:=congrArg List.length e;rw [gx] at this;simp at this;omega);obtain⟨g0,g1⟩:=qe hj;refine⟨⟨b,o,none⟩,hp,om,om,?_⟩;rw [eX];have e:o+(j:Int).toNat*2=o+2*j:=om;rw [e];have k0:=hc _ _ g0;have k1:=hc _ _ g1;exact hK _ k0 (by rw [eX];exact k0) (by rw [eX];exact k1)
theorem Rdv.len2(h:Rdv w 2 s (ts.flatMap iv)):s.n=ts.length:=by
 have:=h.1;rw [gx] at this;omega
theorem Rdv.cut2(h:Rdv w 2 s (ts.flatMap iv)){lo hi:Nat}(h1:lo≤hi)(h2:hi≤ts.length):Rdv w 2 (s.cut lo hi 2) (((ts.take hi).drop lo).flatMap iv):=by
 have hl:=h.len2;obtain⟨h3,h4,h5,h6⟩:=h;refine⟨by rw [gx];simp [Sl.cut];omega,by simp only [Sl.cut];omega,by simp only [Sl.cut];omega,λhne=>?_⟩
 have hlt:lo<hi:=by
  rcases Nat.lt_or_ge lo hi with h|h
  ·exact h
  ·exfalso;apply hne;rw [List.drop_of_length_le (by simp;omega)];rfl
 obtain⟨b,o,hp,hV,hcell⟩:=h6 (λe=>by have:=congrArg List.length e;rw [gx] at this;simp at this;omega);refine⟨b,o+2*lo,?_,hV,λj v hj=>?_⟩
 ·simp only [Sl.cut];rw [if_neg om,hp];simp only [Option.map_some,eX];congr 2;omega
 ·rw [Nat.add_assoc];refine hcell (2*lo+j) v ?_;rw [←acw,←xo,List.getElem?_drop,List.getElem?_take] at hj;split at hj
  ·exact hj
  ·cases hj
theorem Own.less{B':Nat}{sz:Nat}(h:Own w B e sz s vs)(hB:B'≤B):Own w B' e sz s vs:=by
 obtain⟨⟨h1,h2⟩,h3⟩:=h;refine⟨⟨h1,?_⟩,h3⟩;rcases h2 with h2|⟨g,cap,cur,hv,hb,r⟩
 ·exact .inl h2
 ·exact .inr ⟨g,cap,cur,hv,Nat.le_trans hB hb,r⟩
theorem Own.from_{sz:Nat}(h:Own w B e sz s vs):∀b,s.blk=some b→B≤b∧b<w.w.heap.size:=λb hb=>by
 rcases h.form with ⟨rfl,_⟩|⟨g,cur,hp,hB,hg,_⟩
 ·simp [Sl.blk] at hb
 ·simp [Sl.blk,hp] at hb;subst hb;exact⟨hB,(Array.getElem?_eq_some_iff.1 hg).1⟩
theorem Own.at{k:Nat}{sz:Nat}(h:Own w B e sz s vs):Own (w.at k) B e sz s vs:=⟨h.1,h.2⟩
theorem Own.put{sz:Nat}(h:Own w B e sz s vs){b:Nat}(hp:s.p=some ⟨b,0,none⟩)(hj:j<vs.length)(x:Value)(hK:∀w',Own w' B e sz s (vs.set j x)→Ext (λc=>s.blk=some c) w w'→K w'):stc w ⟨b,j,none⟩ x K:=by
 have h1:=h.1.1;rcases h.form with ⟨hs,hv⟩|⟨b',cur,hp',hB,hg,hnc,hcm,hcs,ht,hV⟩
 ·rw [hv] at hj;simp at hj
 ·rw [hp] at hp';cases hp';have hlen:(cur.toList.take (s.n*sz)).length=vs.length:=by rw [ht]
  have hcur:j<cur.size:=by simp at hlen;omega
  have hcell:w.w.cell? ⟨b,j,none⟩=some cur[j]:=by rw [cell_of_row w.w b j cur e (0,0) hg,Array.getElem?_eq_getElem hcur]
  have hset:(w.w.setCell ⟨b,j,none⟩ x).heap[b]?=some (.cells (cur.set j x hcur) e (0,0)):=by
   simp [World.setCell,Array.getElem?_modify,hg,Array.setIfInBounds,hcur]
  have hbk:s.blk=some b:=by simp [Sl.blk,hp]
  refine⟨⟨_,hcell⟩,by simp [World.frozen?,hg],hV,hK (w.set ⟨b,j,none⟩ x) ⟨⟨by simpa using h1,.inr ⟨b,s.c,_,by simp [hp],hB,hset,hnc,hcm,by simpa using hcs,?_⟩⟩,λc hc=>by rw [hbk] at hc;injection hc with hc;subst hc;exact hV⟩ ?_⟩
  ·rw [Array.toList_set,List.take_set,ht]
  ·exact⟨rfl,rfl,rfl,by simp [TW.set,World.setCell],rfl,λ_ h=>h,λ_ h=>.inl h,λk hk hX _=>Below.heap_setCell w.w _ _ k (λe=>hX (by rw [hbk,e])),λk hk=>jY _ _ _ _⟩
theorem Own.put2(h:Own w B e 2 s (ts.flatMap iv))(hi:i=j)(hj:j<ts.length)(hK:∀w',Own w' B e 2 s ((ts.set j (x,y)).flatMap iv)→Ext (λc=>s.blk=some c) w w'→K w'):ixa s i 2 λa=>stc w a x.v λw1=>stc w1 (a.add 1) (.bool y) K:=by
 subst hi;have hl:=h.rdv.len2;rcases h.form with ⟨rfl,hv⟩|⟨b,cur,hp,_⟩
 ·simp at hl;omega
 ·refine⟨⟨b,0,none⟩,hp,om,om,?_⟩;rw [eX];show stc w ⟨b,0+(j:Int).toNat*2,none⟩ x.v λw1=>stc w1 ((⟨b,0+(j:Int).toNat*2,none⟩:Addr).add 1) (.bool y) K
  rw [eX,show 0+(j:Int).toNat*2=2*j by omega];refine h.put hp (by rw [gx];omega) _ λw1 h1 e1=>h1.put hp (by rw [List.length_set,gx];omega) _ λw2 h2 e2=>hK w2 ?_ (e1.trans e2)
  rwa [zU] at h2
theorem adl{n:Int}{N:Nat}{K:Sl→TW→Prop}(hn:n=N)(hN:N≤1099511627776)(h:∀s w',Own w' w.w.heap.size e 2 s ((List.replicate N ((Sl.nil,false):Sl × Bool)).flatMap iv)→s.n=N→Ext aa w w'→s.blk=some w.w.heap.size→K s w'):mks w n n e 32 [.slice none 0 0,.bool false] K:=by
 subst hn;refine⟨om,Int.le_refl _,om,om,λb w' hnew=>h _ _ ⟨⟨by rw [gx];simp;omega,.inr ⟨b,N,(List.replicate N [Value.slice none 0 0,Value.bool false]).flatten.toArray,smp,by have:=hnew.at_;omega,by simpa using hnew.heap,Nat.le_refl _,by simp only [maxLen];omega,?_,?_⟩⟩,?_⟩ smp (hnew.ext _) (by simp [Sl.blk,hnew.at_])⟩
 ·simp
 ·have e0:∀N:Nat,(List.replicate N [Value.slice none 0 0,Value.bool false]).flatten=(List.replicate N ((Sl.nil,false):Sl × Bool)).flatMap iv:=by
   intro N;induction N with
   | zero=>rfl
   | succ N ih=>rw [List.replicate_succ,List.replicate_succ,List.flatten_cons,List.flatMap_cons,ih];rfl
  rw [Int.toNat_natCast,e0,List.toList_toArray,List.take_of_length_le (by rw [gx];simp;omega)]
 ·intro c hc hV;simp [Sl.blk] at hc;rw [hnew.V] at hV;have:=w.lt _ hV;have:=hnew.at_;omega
theorem Own.cut2(h:Own w B e 2 s (ts.flatMap iv)){n:Nat}(hn:n≤ts.length):Own w B e 2 (s.cut 0 n 2) ((ts.take n).flatMap iv):=by
 have hl:=h.rdv.len2;rcases h.form with ⟨rfl,hv⟩|⟨b,cur,hp,hB,hg,hnc,hcm,hcs,ht,hV⟩
 ·have:ts=[]:=by have:=congrArg List.length hv;rw [gx,List.length_nil] at this;exact List.length_eq_zero_iff.1 om
  subst this;have:n=0:=by simpa using hn
  subst this;exact⟨⟨rfl,.inl ⟨rfl,rfl⟩⟩,λb h=>by simp [Sl.blk,Sl.cut] at h⟩
 ·have hb:(s.cut 0 n 2).p=some ⟨b,0,none⟩:=by
   simp only [Sl.cut];split
   ·exact hp
   ·simp [hp,eX]
  refine⟨⟨by rw [gx];simp [Sl.cut];omega,.inr ⟨b,s.c,cur,?_,hB,hg,by simp [Sl.cut];omega,hcm,hcs,?_⟩⟩,λc hc=>?_⟩
  ·rw [Sl.v,hb];simp [Sl.cut]
  ·rw [←xo,←ht,List.take_take];simp only [Sl.cut,Nat.sub_zero];congr 1;omega
  ·simp [Sl.blk,hb] at hc;subst hc;exact hV
theorem push2{w0:TW}(h:Own w w0.w.heap.size e 2 s (ts.flatMap iv))(ex:Ext aa w0 w)(hn:ts.length+1≤1099511627776){K:Sl→TW→Prop}(hK:∀s' w',Own w' w0.w.heap.size e 2 s' ((ts++[(x,y)]).flatMap iv)→Ext aa w0 w'→Ext (λc=>s.blk=some c) w w'→(∀b,s'.blk=some b→s.blk=some b∨w.w.heap.size≤b)→K s' w'):nwb w [x.v,.bool y] e λb w'=>apd w' e 2 32 s ⟨some ⟨b,0,none⟩,1,1⟩ K:=by
 intro b w1 hw;have e1:Ext aa w w1:=hw.ext _;have h:=h.ext e1 λ_ _ h=>h
 have h1:=h.rdv.len2;have hle:=Nat.le_trans ex.size e1.size;refine⟨w0.w.heap.size,ts.flatMap iv,[x.v,.bool y],h,⟨smp,Nat.le_refl _,by show 1≤maxLen;decide,λ_=>⟨b,0,rfl,λhV=>?_,λj v hj=>?_⟩⟩,hle,?_,?_,?_,λs' w' ho _ hx hb=>hK s' w' ?_ ?_ (e1.any.trans hx) λc hc=>(hb c hc).imp id λh=>Nat.le_trans e1.size h⟩
 ·rw [hw.V] at hV;have:=w.lt _ hV;have:=hw.at_;omega
 ·rw [cell_of_row w1.w b (0+j) _ e (0,0) hw.heap];simpa using hj
 ·intro v hv;simp at hv;rcases hv with rfl|rfl<;>rfl
 ·show s.n+1≤9223372036854775807;omega
 ·show (s.n+1)*32≤_;omega
 ·simpa [iv] using ho
 ·refine (ex.trans e1).own hx λb hb=>(h.from_ b hb).1
theorem Own.nil2(w:TW)(B:Nat)(e:TypeId):Own w B e 2 Sl.nil (([]:List (Sl × Bool)).flatMap iv):=⟨⟨rfl,.inl ⟨rfl,rfl⟩⟩,λb h=>by simp [Sl.blk] at h⟩
end
section
variable {w w':TW} {a b s:Sl} {na nb neg:Bool} {y z:Int} {B v x:Nat} {l:List Nat}
theorem acT{m:Nat}(h:0<m):bl m=bl (m/2)+1:=by
 unfold bl;rw [ke (Nat.le_refl 2) h];rfl
def Iz(w:TW)(s:Sl)(neg:Bool)(z:Int):Prop:=∃v:Nat,Nt w s v∧z=if neg then -(v:Int) else v
def Io(w:TW)(B:Nat)(s:Sl)(neg:Bool)(z:Int):Prop:=On w B s z.natAbs∧neg=decide (z<0)
theorem Iz.ext(h:Iz w s neg z)(e:Ext aa w w'):Iz w' s neg z:=h.imp λ_ h=>⟨h.1.ext e,h.2⟩
theorem Iz.here(h:Iz w s neg z):Iz w.here s neg z:=h.imp λ_ h=>⟨h.1.here,h.2⟩
theorem Iz.abs(h:Iz w s neg z):Nt w s z.natAbs:=by
 obtain⟨v,h,rfl⟩:=h;have:(if neg then -(v:Int) else v).natAbs=v:=by split<;>omega
 rwa [this]
theorem Io.iz(h:Io w B s neg z):Iz w s neg z:=⟨z.natAbs,h.1.nt,by rw [h.2];by_cases h0:z<0<;>simp [h0]<;>omega⟩
theorem Io.ext(h:Io w B s neg z)(e:Ext aa w w'):Io w' B s neg z:=⟨On.ext h.1 e,h.2⟩
theorem Io.less{B':Nat}(h:Io w B s neg z)(e:B'≤B):Io w B' s neg z:=⟨On.less h.1 e,h.2⟩
theorem Io.at{k:Nat}(h:Io w B s neg z):Io (w.at k) B s neg z:=⟨On.at h.1,h.2⟩
theorem Iz.neg_(h:Iz w s neg z):z=if neg then -(z.natAbs:Int) else z.natAbs:=by
 obtain⟨v,h,rfl⟩:=h;cases neg<;>simp
theorem dS(h:Nt w s x):Ct Pg F.aB [s.v] w aa [.one .bool] λ(r:Bool) _=>r=decide (x=0):=by
 obtain⟨l,h,rfl⟩:=h;refine Ct.aB ?_;unfold Sh.aB;refine c1 (api_Nat_Len h.here) ?_;rintro r w1 e1 rfl;refine rt1 (c:=.bool) _ e1 ?_;have:=@kz (vl W64 l);by_cases hx:vl W64 l=0
 ·rw [this.2 hx];simp [hx]
 ·have:sz (vl W64 l)≠0:=λh=>hx (this.1 h)
  simp [hx];omega
theorem ac1(hl:Sm W64 l)(h:0<vl W64 l):vl W64 l=vl W64 (l.take (sz (vl W64 l)-1))+W64^(sz (vl W64 l)-1)*l.getD (sz (vl W64 l)-1) 0:=by
 have hp:0<sz (vl W64 l):=by
  rcases Nat.eq_zero_or_pos (sz (vl W64 l)) with h0|h0
  ·rw [kz] at h0;omega
  ·exact h0
 have hd:=(ol W2 hl).1;have h1:=aj W64 l (sz (vl W64 l)-1);rw [show sz (vl W64 l)-1+1=sz (vl W64 l) by omega] at h1;rw [←h1];conv=>lhs;rw [←aV W2 (vl W64 l),hd]
 rfl
theorem abF(hl:Sm W64 l)(h:0<vl W64 l):bl (vl W64 l)=bl (l.getD (sz (vl W64 l)-1) 0)+64*(sz (vl W64 l)-1):=by
 have h1:=ac1 hl h;have hlow:=jQ (hl.take (sz (vl W64 l)-1));have hsz:=df hl;rw [List.length_take,Nat.min_eq_left om] at hlow;have htop:=xQ h;have hB:W64^(sz (vl W64 l)-1)=2^(64*(sz (vl W64 l)-1)):=by rw [Nat.pow_mul]
 rw [hB] at htop h1 hlow;generalize l.getD (sz (vl W64 l)-1) 0=v at*;generalize vl W64 (l.take (sz (vl W64 l)-1))=low at*;generalize 64*(sz (vl W64 l)-1)=k at*;rw [nN htop];congr 2;rw [h1,Nat.add_mul_div_left _ _ (Nat.two_pow_pos _),Nat.div_eq_of_lt hlow,Nat.zero_add]
theorem i6(h:Nt w s x)(hn:sz x≤1099511627776):Ct Pg F.bo [s.v] w aa [.one (.int .i64)] λ(r:Int) _=>r=bl x:=by
 obtain⟨l,h,rfl⟩:=h;refine Ct.bo ?_;unfold Sh.bo;have hl:=h.len;have hsz:=df h.sm;refine c1 (api_Nat_Len h.here) ?_;rintro r w1 e1 rfl;refine aG (λh0=>?_) (λh0=>?_)
 ·refine rt1 (c:=.int .i64) _ e1 ?_;have:sz (vl W64 l)=0:=by simp at h0;omega
  rw [kz.1 this,dX];rfl
 ·have h0:sz (vl W64 l)≠0:=λh=>by simp [h] at h0
  have hp:0<vl W64 l:=by
   rcases Nat.eq_zero_or_pos (vl W64 l) with h|h
   ·rw [h,sz0] at h0;omega
   ·exact h
  refine ab om om (ab om om (ab om om ?_));refine (h.here.ext e1).ix (j:=sz (vl W64 l)-1) om om ?_;have hb:=abF h.sm hp;have hv:=h.lt (sz (vl W64 l)-1);generalize l.getD (sz (vl W64 l)-1) 0=v at*;refine c1 (bits_Len64 (x:=v) hv) ?_;rintro r w2 e2 rfl;have hbv:bl v≤64:=aY hv;refine ab om om (rt1 (c:=.int .i64) _ (e1.trans e2) ?_);rw [hb];omega
theorem vZ(h:Iz w s neg z):Ct Pg F.gi [.agg #[s.v,.bool neg]] w aa [.one (.int .i64)] λ(r:Int) _=>r=z.sign:=by
 refine Ct.gi ?_;unfold Sh.gi;intro w1 e1;have hz:=h.neg_;refine c1 (dS (h.abs.here.ext e1)) ?_;rintro r w2 e2 rfl;refine ac (λh0=>?_) (λh0=>?_)
 ·refine rt1 (c:=.int .i64) _ (e1.trans e2) ?_;rw [show z=0 by omega];rfl
 ·cases neg with
  | true=>
   refine aQ rfl (rt1 (c:=.int .i64) _ (e1.trans e2) ?_);rw [Int.sign_eq_neg_one_of_neg (by simp at hz;omega)]
  | false=>
   refine ap rfl (rt1 (c:=.int .i64) _ (e1.trans e2) ?_);rw [Int.sign_eq_one_of_pos (by simp at hz;omega)]
theorem num_made(h:On w B s v):Ct Pg F.eY [s.v,.bool neg] w aa [.agg [.slice,.bool]] λ(s':Sl)(neg':Bool) w'=>Io w' B s' neg' (if neg then -(v:Int) else v)∧s'=s:=by
 refine Ct.eY ?_;unfold Sh.eY;intro w1 e1;refine j2 (λ(s':Sl)(neg':Bool) w'=>Io w' B s' neg' (if neg then -(v:Int) else v)∧s'=s∧Ext aa w.here w') ?_ ?_
 ·have h1:On w1 B s v:=On.ext (w:=w.here) (Ow.here h) e1;cases neg with
  | true=>
   refine aQ rfl (c1 (dS h1.nt) ?_);rintro r w2 e2 rfl;intro w3 e3;refine⟨⟨?_,?_⟩,rfl,(e1.trans e2).trans e3⟩
   ·rw [if_pos rfl,Int.natAbs_neg,Int.natAbs_natCast];exact On.ext (On.ext h1 e2) e3
   ·rw [if_pos rfl];by_cases hx:v=0
    ·simp [hx]
    ·simp [hx];omega
  | false=>
   refine ap rfl λw2 e2=>⟨⟨On.ext h1 e2,smp⟩,rfl,e1.trans e2⟩
 rintro s' neg' w' ⟨hz,he,e⟩;exact⟨(s',neg',()),rfl,e,hz.at,he⟩
theorem mdd(h:On w B s v){K:Sl→Bool→TW→Prop}(hK:∀s' neg' w',Ext aa w w'→Io w' B s' neg' (if neg then -(v:Int) else v)→K s' neg' w'):cl Pg F.eY [s.v,.bool neg] w [.agg [.slice,.bool]] K:=
 cl0 (num_made (neg:=neg) h) λs' neg' w' e h=>hK s' neg' w' e h.1
theorem num_Norm(h:Iz w s neg z)(hz:sz z.natAbs≤1099511627776):Ct Pg F.i8 [.agg #[s.v,.bool neg]] w aa [.agg [.slice,.bool]] λ(s':Sl)(neg':Bool) w'=>Io w' w.w.heap.size s' neg' z:=by
 refine Ct.i8 ?_;unfold Sh.i8;intro w1 e1 w2 e2;have e:=(e1.trans e2).drew;refine c1 (limb_Norm (h.abs.here.ext e) hz) λs3 w3 e3 h3=>mdd h3 λr r1 w4 e4 h4=>?_
 intro w5 e5;rw [←h.neg_] at h4;exact⟨(r,r1,()),rfl,((e.trans e3).trans e4).trans e5,((h4.ext e5).less e.size).at⟩
theorem num_Add{x:Int}(ha:Iz w a na x)(hb:Iz w b nb y)(hx:sz x.natAbs≤1099511627776)(hy:sz y.natAbs≤1099511627776):Ct Pg F.jE [.agg #[a.v,.bool na],.agg #[b.v,.bool nb]] w aa [.agg [.slice,.bool]] λ(s':Sl)(neg':Bool) w'=>Io w' w.w.heap.size s' neg' (x+y):=by
 refine Ct.jE ?_;unfold Sh.jE;intro w1 e1 w2 e2 w3 e3;have e:=(e1.trans e2).trans e3;have ga:=ha.abs.here.ext e;have gb:=hb.abs.here.ext e;have ia:=ha.neg_;have ib:=hb.neg_;clear e1 e2 e3;refine aG (λh=>?_) (λh=>?_)
 ·have hab:na=nb:=by simpa using h
  subst hab;refine c1 (limb_Add (ga.ext (Ext.refl _ _).drew) (gb.ext (Ext.refl _ _).drew) hx hy) λs w4 e4 h4=>mdd h4 λr r1 w5 e5 hr=>?_
  intro w6 e6
  have:(if na then -((x.natAbs+y.natAbs:Nat):Int) else (x.natAbs+y.natAbs:Nat))=x+y:=by
   cases na<;>simp at ia ib ⊢<;>omega
  rw [this] at hr;exact⟨(r,r1,()),rfl,((e.drew.trans e4).trans e5).trans e6,((hr.ext e6).less e.drew.size).at⟩
 ·have hab:na≠nb:=by simpa using h
  refine c2 (limb_Sub ga gb hx) ?_;rintro s ok w4 e4 ⟨rfl,h4⟩;refine ac (λhle=>?_) (λhle=>?_)
  ·refine mdd h4 λr r1 w5 e5 hr=>?_
   intro w6 e6
   have:(if na then -((x.natAbs-y.natAbs:Nat):Int) else (x.natAbs-y.natAbs:Nat))=x+y:=by
    cases na<;>cases nb<;>simp at ia ib hab ⊢<;>omega
   rw [this] at hr;exact⟨(r,r1,()),rfl,((e.trans e4).trans e5).trans e6,((hr.ext e6).less e.size).at⟩
  ·refine c2 (limb_Sub (gb.ext e4) (ga.ext e4) hy) ?_;rintro s2 ok w5 e5 ⟨-,h5⟩;refine mdd h5 λr r1 w6 e6 hr=>?_
   intro w7 e7
   have:(if nb then -((y.natAbs-x.natAbs:Nat):Int) else (y.natAbs-x.natAbs:Nat))=x+y:=by
    cases na<;>cases nb<;>simp at ia ib hab ⊢<;>omega
   rw [this] at hr;exact⟨(r,r1,()),rfl,(((e.trans e4).trans e5).trans e6).trans e7,((hr.ext e7).less (e.trans e4).size).at⟩
theorem num_Cmp{x:Int}(ha:Iz w a na x)(hb:Iz w b nb y):Ct Pg F.ln [.agg #[a.v,.bool na],.agg #[b.v,.bool nb]] w aa [.one (.int .i64)] λ(r:Int) _=>r=(if x<y then -1 else if x=y then 0 else 1):=by
 refine Ct.ln ?_;unfold Sh.ln;intro w1 e1 w2 e2;have e:=(e1.trans e2).drew;refine c1 (vZ (ha.here.ext e)) ?_;rintro r w3 e3 rfl;refine c1 (vZ ((hb.here.ext e).ext e3)) ?_;rintro r w4 e4 rfl;have f:=(e.trans e3).trans e4;have sx:=Int.sign_eq_neg_one_iff_neg (a:=x);have sx0:=Int.sign_eq_zero_iff_zero (a:=x);have sy:=Int.sign_eq_neg_one_iff_neg (a:=y);have sy0:=Int.sign_eq_zero_iff_zero (a:=y);have tx:=Int.sign_trichotomy x;have ty:=Int.sign_trichotomy y;generalize x.sign=p at*;generalize y.sign=q at*;refine aG (λh=>?_) (λh=>?_)
 ·have hpq:p≠q:=by simpa using h
  refine ac (λhl=>?_) (λhl=>?_)
  ·refine rt1 (c:=.int .i64) _ f ?_;rw [if_pos om]
  ·refine rt1 (c:=.int .i64) _ f ?_;rw [if_neg om,if_neg om]
 ·have hpq:p=q:=by simpa using h
  refine c1 (limb_Cmp ((ha.abs.here.ext e).ext (e3.trans e4)) ((hb.abs.here.ext e).ext (e3.trans e4))) ?_;rintro r w5 e5 rfl;have c0:=@ef x.natAbs y.natAbs;have c1:=@mY x.natAbs y.natAbs;have c2:=@pD x.natAbs y.natAbs;have cr:ij x.natAbs y.natAbs=-1∨ij x.natAbs y.natAbs=0∨ij x.natAbs y.natAbs=1:=by unfold ij;split<;>(try split)<;>simp
  generalize ij x.natAbs y.natAbs=c at*;refine ac (λhl=>?_) (λhl=>?_)
  ·refine ab om om (rt1 (c:=.int .i64) _ (f.trans e5) ?_);split
   ·omega
   ·split<;>omega
  ·refine rt1 (c:=.int .i64) _ (f.trans e5) ?_;split
   ·omega
   ·split<;>omega
theorem num_Of{n:Int}(h1:-9223372036854775808≤n)(h2:n≤9223372036854775807):Ct Pg F.gz [.int .i64 n] w aa [.agg [.slice,.bool]] λ(s':Sl)(neg':Bool) w'=>Io w' w.w.heap.size s' neg' n:=by
 refine Ct.gz ?_;unfold Sh.gz;intro w1 e1;refine ac (λh=>?_) (λh=>?_)
 ·have ha:IntKind.u64.wrap n=n+18446744073709551616:=by rw [IntKind.wrap_u64];omega
  have hb:IntKind.u64.wrap (0-(n+18446744073709551616))=(n.natAbs:Int):=by rw [IntKind.wrap_u64];omega
  refine ag (y:=n+18446744073709551616) ha (ag (y:=(n.natAbs:Int)) hb ?_);refine c1 (limb_One (y:=n.natAbs) (by rw [w64];omega)) λs w2 e2 g2=>mdd g2 λr r1 w3 e3 hr=>?_
  intro w4 e4;rw [if_pos rfl,show -(n.natAbs:Int)=n by omega] at hr;exact⟨(r,r1,()),rfl,((e1.trans e2).trans e3).trans e4,((hr.ext e4).less e1.size).at⟩
 ·refine ai (y:=n.natAbs) om (by rw [w64];omega) ?_;refine c1 (limb_One (y:=n.natAbs) (by rw [w64];omega)) λs w2 e2 g2=>mdd g2 λr r1 w3 e3 hr=>?_
  intro w4 e4;rw [if_neg dcd,show (n.natAbs:Int)=n by omega] at hr;exact⟨(r,r1,()),rfl,((e1.trans e2).trans e3).trans e4,((hr.ext e4).less e1.size).at⟩
end
section
variable {D:Nat→List Nat} {w w':TW} {t:Sl × Bool} {i z:Int} {B j k:Nat} {s x:Sl} {vs:List Value} {zs:List Int} {e:TypeId} {K:Addr→Prop} {neg y:Bool}
def El(D:Nat→List Nat)(w:TW)(t:Sl × Bool)(z:Int):Prop:=Rd w t.1 (D z.natAbs)∧t.2=decide (z<0)
def Ri(w:TW)(s:Sl)(zs:List Int):Prop:=∃ts:List (Sl × Bool),Rdv w 2 s (ts.flatMap iv)∧ts.length=zs.length∧∀i (h:i<ts.length),Iz w ts[i].1 ts[i].2 (zs.getD i 0)
def Rq(D:Nat→List Nat)(w:TW)(s:Sl)(zs:List Int):Prop:=∃ts:List (Sl × Bool),Rdv w 2 s (ts.flatMap iv)∧ts.length=zs.length∧∀i (h:i<ts.length),El D w ts[i] (zs.getD i 0)
def Oq(D:Nat→List Nat)(w:TW)(B:Nat)(e:TypeId)(s:Sl)(zs:List Int):Prop:=∃ts:List (Sl × Bool),Own w B e 2 s (ts.flatMap iv)∧ts.length=zs.length∧∀i (h:i<ts.length),El D w ts[i] (zs.getD i 0)∧(D (zs.getD i 0).natAbs≠[]→∀c,ts[i].1.blk=some c→s.blk≠some c∧c<w.w.heap.size)
theorem El.ext(h:El D w t z)(e:Ext aa w w'):El D w' t z:=⟨h.1.ext e,h.2⟩
theorem Rdv.extN(h:Rdv w k s vs)(e:Ext aa w w'):Rdv w' k s vs:=by
 obtain⟨h1,h2,h3,h4⟩:=h;refine⟨h1,h2,h3,λhne=>?_⟩;obtain⟨b,o,hp,hV,hc⟩:=h4 hne
 have hb:b<w.w.heap.size:=by
  obtain⟨v,hv⟩:∃v,vs[0]?=some v:=⟨_,List.getElem?_eq_getElem (List.length_pos_iff.2 hne)⟩;exact World.block_lt_of_cell? w.w _ (hc 0 v hv)
 exact⟨b,o,hp,λhV'=>(e.new b hV').elim hV λh=>by omega,λj v hj=>(World.cell?_of_block (e.block b hb (λh=>h) (.inr hV))).trans (hc j v hj)⟩
theorem Rdv.here(h:Rdv w k s vs):Rdv w.here k s vs:=h
theorem Ri.ext(h:Ri w s zs)(e:Ext aa w w'):Ri w' s zs:=by
 obtain⟨ts,h1,h2,h3⟩:=h;exact⟨ts,h1.extN e,h2,λi hi=>(h3 i hi).ext e⟩
theorem Ri.here(h:Ri w s zs):Ri w.here s zs:=by
 obtain⟨ts,h1,h2,h3⟩:=h;exact⟨ts,h1,h2,λi hi=>(h3 i hi).here⟩
theorem Rq.ext(h:Rq D w s zs)(e:Ext aa w w'):Rq D w' s zs:=by
 obtain⟨ts,h1,h2,h3⟩:=h;exact⟨ts,h1.extN e,h2,λi hi=>(h3 i hi).ext e⟩
theorem Rq.here(h:Rq D w s zs):Rq D w.here s zs:=by
 obtain⟨ts,h1,h2,h3⟩:=h;exact⟨ts,h1,h2,λi hi=>⟨(h3 i hi).1.here,(h3 i hi).2⟩⟩
theorem Rq.at(h:Rq D w s zs):Rq D (w.at k) s zs:=by
 obtain⟨ts,h1,h2,h3⟩:=h;exact⟨ts,h1,h2,λi hi=>⟨Rd.at_ (h3 i hi).1,(h3 i hi).2⟩⟩
theorem Ri.len(h:Ri w s zs):s.n=zs.length:=by obtain⟨ts,h1,h2,_⟩:=h;rw [h1.len2,h2]
theorem Rq.len(h:Rq D w s zs):s.n=zs.length:=by obtain⟨ts,h1,h2,_⟩:=h;rw [h1.len2,h2]
theorem Oq.rq(h:Oq D w B e s zs):Rq D w s zs:=by
 obtain⟨ts,h1,h2,h3⟩:=h;exact⟨ts,h1.rdv,h2,λi hi=>(h3 i hi).1⟩
theorem El.iz(h:El (dg W64) w t z):Iz w t.1 t.2 z:=⟨z.natAbs,⟨_,h.1,aV W2 _⟩,by rw [h.2];by_cases h0:z<0<;>simp [h0]<;>omega⟩
theorem Rq.ri(h:Rq (dg W64) w s zs):Ri w s zs:=by
 obtain⟨ts,h1,h2,h3⟩:=h;exact⟨ts,h1,h2,λi hi=>(h3 i hi).iz⟩
theorem Oq.ext(h:Oq D w B e s zs)(x:Ext aa w w'):Oq D w' B e s zs:=by
 obtain⟨ts,h1,h2,h3⟩:=h;exact⟨ts,h1.ext x λ_ _ h=>h,h2,λi hi=>⟨(h3 i hi).1.ext x,λhn c hc=>⟨((h3 i hi).2 hn c hc).1,Nat.lt_of_lt_of_le ((h3 i hi).2 hn c hc).2 x.size⟩⟩⟩
theorem Oq.less{B':Nat}(h:Oq D w B e s zs)(hB:B'≤B):Oq D w B' e s zs:=by
 obtain⟨ts,h1,h2,h3⟩:=h;exact⟨ts,h1.less hB,h2,h3⟩
theorem Oq.at(h:Oq D w B e s zs):Oq D (w.at k) B e s zs:=by
 obtain⟨ts,h1,h2,h3⟩:=h;exact⟨ts,h1.at,h2,λi hi=>⟨⟨Rd.at_ (h3 i hi).1.1,(h3 i hi).1.2⟩,(h3 i hi).2⟩⟩
theorem Oq.len(h:Oq D w B e s zs):s.n=zs.length:=h.rq.len
theorem Oq.nil(D:Nat→List Nat)(w:TW)(B:Nat)(e:TypeId):Oq D w B e Sl.nil []:=⟨[],Own.nil2 w B e,rfl,λi hi=>by simp at hi⟩
theorem Ri.ix(h:Ri w s zs)(hi:i=j)(hj:j<zs.length)(hK:∀(a:Addr) (t:Sl × Bool),Iz w t.1 t.2 (zs.getD j 0)→w.w.cell? a=some t.1.v→w.w.cell? (a.add 0)=some t.1.v→w.w.cell? (a.add 1)=some (.bool t.2)→K a):ixa s i 2 K:=by
 obtain⟨ts,h1,h2,h3⟩:=h;exact h1.at2 hi om λa k1 k2 k3=>hK a _ (h3 j om) k1 k2 k3
theorem Rq.ix(h:Rq D w s zs)(hi:i=j)(hj:j<zs.length)(hK:∀(a:Addr) (t:Sl × Bool),El D w t (zs.getD j 0)→w.w.cell? a=some t.1.v→w.w.cell? (a.add 0)=some t.1.v→w.w.cell? (a.add 1)=some (.bool t.2)→K a):ixa s i 2 K:=by
 obtain⟨ts,h1,h2,h3⟩:=h;exact h1.at2 hi om λa k1 k2 k3=>hK a _ (h3 j om) k1 k2 k3
theorem ldp{a:Addr}(h0:w.w.cell? (a.add 0)=some t.1.v)(h1:w.w.cell? (a.add 1)=some (.bool t.2)){K:Sl→Bool→Prop}(hK:K t.1 t.2):ldc (.slice) w (a.add 0) λ(v:Sl)=>ldc (.bool) w (a.add 1) λ(v1:Bool)=>K v v1:=⟨t.1,h0,t.2,h1,hK⟩
theorem Ri.cut(h:Ri w s zs){lo hi:Nat}(h1:lo≤hi)(h2:hi≤zs.length):Ri w (s.cut lo hi 2) ((zs.take hi).drop lo):=by
 obtain⟨ts,g1,g2,g3⟩:=h;refine⟨(ts.take hi).drop lo,g1.cut2 h1 om,by simp [g2],λi hi'=>?_⟩;simp only [List.length_drop,List.length_take] at hi';have:=g3 (lo+i) om
 have e:((zs.take hi).drop lo).getD i 0=zs.getD (lo+i) 0:=by
  simp only [List.getD_eq_getElem?_getD,List.getElem?_drop,List.getElem?_take];rw [if_pos om]
 rw [e];simpa using this
theorem mX{s:Sl}{n:Nat}{k:Nat}:(s.cut 0 n k).p=s.p:=by
 simp only [Sl.cut,Nat.zero_mul];split
 ·rfl
 ·cases h:s.p with
  | none=>rfl
  | some a=>simp [Addr.add]
theorem Oq.cut(h:Oq D w B e s zs){n:Nat}(hn:n≤zs.length):Oq D w B e (s.cut 0 n 2) (zs.take n):=by
 obtain⟨ts,g1,g2,g3⟩:=h;refine⟨ts.take n,g1.cut2 om,by simp [g2],λi hi=>?_⟩;simp only [List.length_take] at hi;have:=g3 i om
 have e:(zs.take n).getD i 0=zs.getD i 0:=by
  simp only [List.getD_eq_getElem?_getD,List.getElem?_take];rw [if_pos om]
 rw [e];simp only [List.getElem_take];refine⟨this.1,λhne c hc=>?_⟩;have:=this.2 hne c hc;rw [Sl.blk,mX];exact this
theorem Oq.push{w0:TW}(h:Oq D w w0.w.heap.size e s zs)(ex:Ext aa w0 w)(hn:zs.length+1≤1099511627776)(hz:El D w (x,y) z)(hb:D z.natAbs≠[]→∀c,x.blk=some c→s.blk≠some c∧c<w.w.heap.size){K:Sl→TW→Prop}(hK:∀s' w',Oq D w' w0.w.heap.size e s' (zs++[z])→Ext aa w0 w'→Ext (λc=>s.blk=some c) w w'→K s' w'):nwb w [x.v,.bool y] e λb w'=>apd w' e 2 32 s ⟨some ⟨b,0,none⟩,1,1⟩ K:=by
 obtain⟨ts,g1,g2,g3⟩:=h;refine push2 g1 ex om λs' w' h' e' x' hb'=>hK s' w' ⟨ts++[(x,y)],h',by simp [g2],λi hi=>?_⟩ e' x'
 simp only [List.length_append,List.length_singleton] at hi
 have key:∀(t:Sl × Bool) (q:Int),El D w t q→(D q.natAbs≠[]→∀c,t.1.blk=some c→s.blk≠some c∧c<w.w.heap.size)→El D w' t q∧(D q.natAbs≠[]→∀c,t.1.blk=some c→s'.blk≠some c∧c<w'.w.heap.size):=λt q k1 k2=>
  ⟨⟨k1.1.extN x' λhne c hc=>(k2 hne c hc).1,k1.2⟩,λhne c hc=>⟨λhs=>(hb' c hs).elim (k2 hne c hc).1 λh=>by have:=(k2 hne c hc).2;omega,Nat.lt_of_lt_of_le (k2 hne c hc).2 x'.size⟩⟩
 rcases Nat.lt_or_ge i ts.length with hlt|hge
 ·rw [List.getElem_append_left hlt,show (zs++[z]).getD i 0=zs.getD i 0 by simp [List.getD_eq_getElem?_getD,List.getElem?_append_left (show i<zs.length by omega)]];exact key _ _ (g3 i hlt).1 (g3 i hlt).2
 ·have:i=ts.length:=om;subst this;rw [List.getElem_append_right (Nat.le_refl _),show (zs++[z]).getD ts.length 0=z by rw [g2];simp];simp only [Nat.sub_self,List.getElem_singleton];exact key _ _ hz hb
theorem Oq.set(h:Oq D w B e s zs)(hi:i=j)(hj:j<zs.length)(hz:El D w (x,y) z)(hb:D z.natAbs≠[]→∀c,x.blk=some c→s.blk≠some c∧c<w.w.heap.size){K:TW→Prop}(hK:∀w',Oq D w' B e s (zs.set j z)→Ext (λc=>s.blk=some c) w w'→K w'):ixa s i 2 λa=>stc w a x.v λw1=>stc w1 (a.add 1) (.bool y) K:=by
 obtain⟨ts,g1,g2,g3⟩:=h;refine g1.put2 hi om λw' h' x'=>hK w' ⟨ts.set j (x,y),h',by simp [g2],λi hi=>?_⟩ x'
 simp only [List.length_set] at hi
 have key:∀(t:Sl × Bool) (q:Int),El D w t q→(D q.natAbs≠[]→∀c,t.1.blk=some c→s.blk≠some c∧c<w.w.heap.size)→El D w' t q∧(D q.natAbs≠[]→∀c,t.1.blk=some c→s.blk≠some c∧c<w'.w.heap.size):=λt q k1 k2=>
  ⟨⟨k1.1.extN x' λhne c hc=>(k2 hne c hc).1,k1.2⟩,λhne c hc=>⟨(k2 hne c hc).1,Nat.lt_of_lt_of_le (k2 hne c hc).2 x'.size⟩⟩
 by_cases hij:j=i
 ·subst hij;rw [List.getElem_set_self,show (zs.set j z).getD j 0=z by simp [List.getD_eq_getElem?_getD,hj]];exact key _ _ hz hb
 ·rw [List.getElem_set_ne hij,show (zs.set j z).getD i 0=zs.getD i 0 by simp [List.getD_eq_getElem?_getD,List.getElem?_set_ne hij]];exact key _ _ (g3 i hi).1 (g3 i hi).2
theorem rk(hD:D 0=[]){n:Int}{N:Nat}{K:Sl→TW→Prop}(hn:n=N)(hN:N≤1099511627776)(h:∀s w',Oq D w' w.w.heap.size e s (List.replicate N 0)→Ext aa w w'→K s w'):mks w n n e 32 [.slice none 0 0,.bool false] K:=
 adl hn hN λs w' h' _ e' _=>h s w' ⟨_,h',smp,λi hi=>by
  simp only [List.length_replicate] at hi;have e0:(List.replicate N (0:Int)).getD i 0=0:=by simp [List.getD_eq_getElem?_getD,List.getElem?_replicate];split<;>rfl
  rw [e0];simp only [List.getElem_replicate];refine⟨⟨?_,rfl⟩,λhne=>absurd hD hne⟩;show Rd w' Sl.nil (D 0);rw [hD];exact Rd.nil _⟩ e'
theorem Io.el(h:Io w B s neg z):El (dg W64) w (s,neg) z:=⟨Ow.rd h.1,h.2⟩
theorem Zr.el(h:Zr w s neg z):El (dg B32) w (s,neg) z:=h
theorem El.zr(h:El (dg B32) w t z):Zr w t.1 t.2 z:=h
end
section
variable {l zs:List Int} {z:Int} {a s:Sl} {w:TW}
def ae(l:List Int):List Int:=(l.reverse.dropWhile (· == 0)).reverse
theorem rV(l:List Int):ae (l++[0])=ae l:=by simp [ae]
theorem pS(h:z≠0):ae (l++[z])=l++[z]:=by simp [ae,h]
theorem mw(l:List Int):∃k,l=ae l++List.replicate k 0:=by
 have h:∀l:List Int,∃k,l=List.replicate k 0++l.dropWhile (· == 0):=λl=>by
  induction l with
  | nil=>exact⟨0,rfl⟩
  | cons z l ih=>
   by_cases hz:z=0
   ·obtain⟨k,hk⟩:=ih;refine⟨k+1,?_⟩;subst hz;rw [List.dropWhile_cons_of_pos smp,List.replicate_succ,List.cons_append,←hk]
   ·exact⟨0,by rw [List.dropWhile_cons_of_neg (by simpa using hz)];rfl⟩
 obtain⟨k,hk⟩:=h l.reverse;refine⟨k,?_⟩;have:=congrArg List.reverse hk;rw [List.reverse_reverse,List.reverse_append,List.reverse_replicate] at this;exact this
theorem iD(l:List Int):l.take (ae l).length=ae l:=by
 obtain⟨k,hk⟩:=mw l;have:=congrArg (List.take (ae l).length) hk;rwa [List.take_left'] at this;rfl
theorem ao(l:List Int):(ae l).length≤l.length:=by
 have:=congrArg List.length (iD l);simp at this;omega
theorem fE(h:∀z,l.getLast?=some z→z≠0):ae l=l:=by
 rcases List.eq_nil_or_concat l with rfl|⟨m,z,rfl⟩
 ·rfl
 ·rw [List.concat_eq_append] at h ⊢;exact pS (h z smp)
theorem dy(l:List Int){m:Nat}(h:m<l.length):l.take (m+1)=l.take m++[l.getD m 0]:=by
 rw [List.take_add_one];simp [h]
theorem acP(s:Sl)(a b:Nat):(s.cut 0 a 2).cut 0 b 2=s.cut 0 b 2:=by
 have h1:((s.cut 0 a 2).cut 0 b 2).p=(s.cut 0 b 2).p:=by rw [mX,mX,mX]
 cases s;simp only [Sl.cut] at h1 ⊢;rw [Sl.mk.injEq];exact⟨h1,rfl,rfl⟩
theorem xD{n:Nat}(h:s.n=n):s.cut 0 n 2=s:=by
 have h1:=@mX s n 2;cases s;simp only [Sl.cut] at h1 h ⊢;rw [Sl.mk.injEq];exact⟨h1,om,rfl⟩
theorem polyz_trim(ha:Ri w a zs)(hn:zs.length≤1099511627776):Ct Pg F.cH [a.v] w aa [.one .slice] λ(s':Sl) _=>s'=a.cut 0 (ae zs).length 2:=by
 refine Ct.cH ?_;unfold Sh.cH;have na:=ha.len;refine j1 (λ(s':Sl) w'=>s'=a.cut 0 (ae zs).length 2∧Ext aa w.here w') ?_ ?_
 ·refine lp1 (λm (x:Sl) w1=>m≤zs.length∧x=a.cut 0 m 2∧ae (zs.take m)=ae zs∧Ext aa w.here w1) zs.length ⟨Nat.le_refl _,(xD na).symm,by rw [List.take_of_length_le (Nat.le_refl _)],Ext.refl _ _⟩ ?_;rintro m x w1 ⟨hm,rfl,hp,e1⟩;have hr:=(ha.here.ext e1).cut (Nat.zero_le m) hm;rw [List.drop_zero] at hr;have nr:=hr.len;rw [List.length_take,Nat.min_eq_left hm] at nr;have hcap:=ha.here.ext e1;refine j1 (λ(b:Bool) w2=>b=decide (0<m∧zs.getD (m-1) 0=0)∧Ext aa w1 w2) ?_ ?_
  ·refine ac (λh=>?_) (λh=>?_)
   ·refine ab om om (hr.ix (j:=m-1) om (by rw [List.length_take];omega) λad t hz k0 _ _=>⟨t.1,k0,?_⟩)
    have hg:(zs.take m).getD (m-1) 0=zs.getD (m-1) 0:=by
     simp only [List.getD_eq_getElem?_getD,List.getElem?_take];rw [if_pos om]
    rw [hg] at hz;refine c1 (dS hz.abs) ?_;rintro r w2 e2 rfl;refine⟨?_,e2⟩;rw [decide_eq_decide];constructor
    ·intro h0;exact⟨om,om⟩
    ·intro h0;omega
   ·refine⟨?_,Ext.refl _ _⟩;symm;rw [decide_eq_false_iff_not];omega
  rintro b w2 ⟨rfl,e2⟩
  have hcap:m≤a.c:=by
   obtain⟨ts,g1,g2,_⟩:=ha;have:=g1.2.1;omega
  refine ac (λh=>?_) (λh=>?_)
  ·refine ab om om ⟨om,om,by simp [Sl.cut];omega,m-1,om,om,?_,?_,e1.trans e2⟩
   ·rw [show (((a.cut 0 m 2).n:Int)-1).toNat=m-1 by omega];exact acP a m (m-1)
   ·have ht:=dy zs (m:=m-1) om;rw [show m-1+1=m by omega,h.2] at ht;rw [←hp,ht,rV]
  ·have hpt:ae (zs.take m)=zs.take m:=by
    rcases Nat.eq_zero_or_pos m with h0|h0
    ·subst h0;rfl
    ·have ht:=dy zs (m:=m-1) om;rw [show m-1+1=m by omega] at ht;rw [ht];exact pS λh'=>h ⟨h0,h'⟩
   refine⟨?_,e1.trans e2⟩;rw [←hp,hpt,List.length_take,Nat.min_eq_left hm]
 rintro s' w' ⟨rfl,e⟩;exact rt1 (c:=.slice) _ e rfl
theorem xV{neg:Bool}(h:Zr w s neg z):Ct Pg F.cT [.agg #[s.v,.bool neg]] w aa [.one .bool] λ(r:Bool) _=>r=decide (z=0):=by
 refine Ct.cT ?_;unfold Sh.cT;intro w1 e1;refine c1 (uV (h.1.here.ext e1)) ?_;rintro r w2 e2 rfl;refine rt1 (c:=.bool) _ (e1.trans e2) ?_;rw [decide_eq_decide];omega
theorem rT(ha:Rq (dg B32) w a zs)(hn:zs.length≤1099511627776):Ct Pg F.bZ [a.v] w aa [.one .slice] λ(s':Sl) _=>s'=a.cut 0 (ae zs).length 2:=by
 refine Ct.bZ ?_;unfold Sh.bZ;have na:=ha.len;refine j1 (λ(k:Int) w'=>k=(ae zs).length∧Ext aa w.here w') ?_ ?_
 ·refine lp1 (λm (x:Int) w1=>m≤zs.length∧x=m∧ae (zs.take m)=ae zs∧Ext aa w.here w1) zs.length ⟨Nat.le_refl _,om,by rw [List.take_of_length_le (Nat.le_refl _)],Ext.refl _ _⟩ ?_;rintro m x w1 ⟨hm,rfl,hp,e1⟩;have hr:=ha.here.ext e1;refine j1 (λ(b:Bool) w2=>b=decide (0<m∧zs.getD (m-1) 0=0)∧Ext aa w1 w2) ?_ ?_
  ·refine ac (λh=>?_) (λh=>?_)
   ·refine ab om om (hr.ix (j:=m-1) om om λad t hz _ k0 k1=>ldp k0 k1 ?_);refine c1 (xV hz.zr) ?_;rintro r w2 e2 rfl;refine⟨?_,e2⟩;rw [decide_eq_decide];constructor
    ·intro h0;exact⟨om,om⟩
    ·intro h0;omega
   ·refine⟨?_,Ext.refl _ _⟩;symm;rw [decide_eq_false_iff_not];omega
  rintro b w2 ⟨rfl,e2⟩;refine ac (λh=>?_) (λh=>?_)
  ·refine ab om om ⟨m-1,om,om,om,?_,e1.trans e2⟩;have ht:=dy zs (m:=m-1) om;rw [show m-1+1=m by omega,h.2] at ht;rw [←hp,ht,rV]
  ·have hpt:ae (zs.take m)=zs.take m:=by
    rcases Nat.eq_zero_or_pos m with h0|h0
    ·subst h0;rfl
    ·have ht:=dy zs (m:=m-1) om;rw [show m-1+1=m by omega] at ht;rw [ht];exact pS λh'=>h ⟨h0,h'⟩
   refine⟨?_,e1.trans e2⟩;rw [←hp,hpt,List.length_take,Nat.min_eq_left hm]
 rintro k w' ⟨rfl,e⟩
 have hcap:(ae zs).length≤a.c:=by
  have:=ao zs;obtain⟨ts,g1,g2,_⟩:=ha;have:=g1.2.1;omega
 refine⟨om,om,om,?_⟩;rw [Int.toNat_natCast];exact rt1 (c:=.slice) _ e rfl
theorem polyz_Norm(ha:Ri w a zs)(hn:zs.length≤1099511627776)(hz:∀i,sz (zs.getD i 0).natAbs≤1099511627776):Ct Pg F.ba [a.v] w aa [.one .slice] λ(s':Sl) w'=>Oq (dg W64) w' w.w.heap.size T.af s' (ae zs):=by
 refine Ct.ba ?_;unfold Sh.ba;have na:=ha.len;refine rk (D:=dg W64) (az _) (N:=zs.length) om hn λs w1 h1 e1=>?_
 refine j0 (λw'=>Oq (dg W64) w' w.here.w.heap.size T.af s zs∧Ext aa w.here w') ?_ ?_
 ·refine lp1 (λm (i:Int) w2=>∃j:Nat,i=j∧m=zs.length-j∧j≤zs.length∧Oq (dg W64) w2 w.here.w.heap.size T.af s (zs.take j++List.replicate (zs.length-j) 0)∧Ext aa w.here w2) zs.length ⟨0,rfl,om,om,by simpa using h1,e1⟩ ?_;rintro m i w2 ⟨j,rfl,rfl,hj,ho,e2⟩;refine ac (λh=>?_) (λh=>?_)
  ·refine (ha.here.ext e2).ix (j:=j) rfl om λad t hzt _ k0 k1=>ldp k0 k1 ?_
   intro w3 e3 w4 e4;have e34:=e3.trans e4;refine cl0 (num_Norm (hzt.ext e34) (hz j)) ?_;intro r r1 w5 e5 hr;have hr:Io w5 w4.w.heap.size r r1 (zs.getD j 0):=hr;have e25:=e34.trans e5
   have hfar:∀c,r.blk=some c→s.blk≠some c∧c<w5.w.heap.size:=λc hc=>by
    have k1:=Ow.from_ hr.1 c hc;refine⟨λhs=>?_,k1.2⟩;obtain⟨ts,g1,_⟩:=ho;have:=(g1.from_ c hs).2;have:=e34.size;omega
   refine (ho.ext e25).set (z:=zs.getD j 0) rfl (by simp;omega) hr.el (λ_=>hfar) λw6 h6 e6=>ab om om ⟨zs.length-(j+1),om,j+1,om,rfl,om,?_,(e2.trans e25).own e6 λc hc=>?_⟩
   ·have:(zs.take j++List.replicate (zs.length-j) 0).set j (zs.getD j 0)=zs.take (j+1)++List.replicate (zs.length-(j+1)) 0:=by
     rw [dy zs om,show zs.length-j=(zs.length-(j+1))+1 by omega,List.replicate_succ,List.set_append_right _ _ (by simp;omega)];simp [Nat.min_eq_left hj]
    rwa [this] at h6
   ·obtain⟨ts,g1,_⟩:=ho;exact (g1.from_ c hc).1
  ·have:j=zs.length:=om;subst this;exact⟨by simpa using ho,e2⟩
 rintro w2 ⟨ho,e2⟩;refine c1 (polyz_trim ho.rq.ri hn) ?_;rintro s' w3 e3 rfl;have hc:=(ho.cut (ao zs)).ext e3;rw [iD] at hc;exact rt1 (c:=.slice) _ (e2.trans e3) hc.at
def hgt(l:List Int):Nat:=(l.map λz=>bl z.natAbs).foldl max 0
theorem vF(l:List Int)(z:Int):hgt (l++[z])=max (hgt l) (bl z.natAbs):=by simp [hgt]
theorem fJ(l:List Int):hgt (ae l)=hgt l:=by
 obtain⟨k,hk⟩:=mw l;conv=>rhs;rw [hk]
 clear hk;induction k with
 | zero=>simp
 | succ k ih=>rw [List.replicate_succ',←List.append_assoc,vF,←ih];simp [dX]
theorem oK:∀i,bl (l.getD i 0).natAbs≤hgt l:=by
 intro i;by_cases h:i<l.length
 ·have:∀(l:List Int) (m:Nat),m≤(l.map λz=>bl z.natAbs).foldl max m∧∀i (h:i<l.length),bl l[i].natAbs≤(l.map λz=>bl z.natAbs).foldl max m:=by
   intro l;induction l with
   | nil=>intro m;exact⟨Nat.le_refl _,λi h=>by simp at h⟩
   | cons z l ih=>
    intro m;simp only [List.map_cons,List.foldl_cons];obtain⟨k1,k2⟩:=ih (max m (bl z.natAbs));refine⟨om,λi hi=>?_⟩;cases i with
    | zero=>simp only [List.getElem_cons_zero];omega
    | succ i=>simp only [List.getElem_cons_succ];exact k2 i (by simpa using hi)
  rw [List.getD_eq_getElem?_getD,List.getElem?_eq_getElem h];exact (this l 0).2 i h
 ·rw [List.getD_eq_getElem?_getD,List.getElem?_eq_none om];simp [dX]
theorem polyz_Height(ha:Ri w a zs)(hn:zs.length≤1099511627776)(hz:∀i,sz (zs.getD i 0).natAbs≤1099511627776):Ct Pg F.fY [a.v] w aa [.one (.int .i64)] λ(r:Int) _=>r=hgt zs:=by
 refine Ct.fY ?_;unfold Sh.fY;have na:=ha.len;refine j1 (λ(r:Int) w'=>r=hgt zs∧Ext aa w.here w') ?_ ?_
 ·refine lp2 (λm (n i:Int) w2=>∃j:Nat,i=j∧m=zs.length-j∧j≤zs.length∧n=hgt (zs.take j)∧Ext aa w.here w2) zs.length ⟨0,rfl,om,om,rfl,Ext.refl _ _⟩ ?_;rintro m n i w2 ⟨j,rfl,rfl,hj,rfl,e2⟩;refine ac (λh=>?_) (λh=>?_)
  ·refine (ha.here.ext e2).ix (j:=j) rfl om λad t hzt _ k0 k1=>ldp k0 k1 ?_
   intro w3 e3 w4 e4;refine c1 (i6 ((hzt.ext e3).ext e4).abs (hz j)) ?_;rintro r w5 e5 rfl;refine fV (ab om om ⟨zs.length-(j+1),om,j+1,om,rfl,om,?_,((e2.trans e3).trans e4).trans e5⟩);rw [dy zs om,vF];split<;>omega
  ·have:j=zs.length:=om;subst this;exact⟨by rw [List.take_of_length_le (Nat.le_refl _)],e2⟩
 rintro r w' ⟨rfl,e⟩;exact rt1 (c:=.int .i64) _ e rfl
end
section
variable {w:TW} {s:Sl} {neg:Bool}
theorem eu{x y q r:Int}(hy:0<y)(h:r+y*q=x)(h0:0≤r)(h1:r<y):x/y=q∧x%y=r:=(Int.ediv_emod_unique hy).2 ⟨h,h0,h1⟩
theorem mdr{v:Nat}(h:Dr w s v){K:Sl→Bool→TW→Prop}(hK:∀s' neg' w',Ext aa w w'→Zr w' s' neg' (if neg then -(v:Int) else v)→s'=s→K s' neg' w'):cl Pg F.aU [s.v,.bool neg] w [.agg [.slice,.bool]] K:=
 cl0 (lH (neg:=neg) h) λs' neg' w' e h=>hK s' neg' w' e h.1 h.2
theorem xW{z:Int}(h:Iz w s neg z)(hn:s.n≤274877906944):Ct Pg F.cU [.agg #[s.v,.bool neg]] w aa [.agg [.slice,.bool]] λ(s':Sl)(neg':Bool) w'=>Zr w' s' neg' z∧∀c,s'.blk=some c→w.w.heap.size≤c:=by
 refine Ct.cU ?_;unfold Sh.cU;intro w1 e1 w2 e2;have e:=(e1.trans e2).drew;refine c1 (aaM (h.abs.here.ext e) hn) λs3 w3 e3 h3=>mdr h3.dr λr r1 w4 e4 hr hrs=>?_
 intro w5 e5;rw [←h.neg_] at hr;exact⟨(r,r1,()),rfl,((e.trans e3).trans e4).trans e5,(hr.ext e5).at,λc hc=>by rw [hrs] at hc;exact Nat.le_trans e.size (Ow.blk_le h3 c hc)⟩
def sgd(R M:Nat):Int:=if M<2*(R%M) then (R%M:Nat)-(M:Int) else (R%M:Nat)
end
section
variable {w:TW} {a s:Sl} {D:Nat→List Nat} {zs:List Int} {i z:Int} {j k n:Nat} {K:Addr→Prop} {neg:Bool}
theorem Rd.lt_blk{l:List Nat}(h:Rd w s l)(hl:l≠[]):∀c,s.blk=some c→c<w.w.heap.size:=λc hc=>by
 have hne:l.map U≠[]:=by simpa using hl
 obtain⟨b,o,hp,_,hcell⟩:=h.rv.2.2.2 hne;have:c=b:=by simp [Sl.blk,hp] at hc;omega
 subst this;obtain⟨v,hv⟩:∃v,(l.map U)[0]?=some v:=⟨_,List.getElem?_eq_getElem (List.length_pos_iff.2 hne)⟩;exact World.block_lt_of_cell? w.w _ (hcell 0 v hv)
theorem Oq.lt_blk{B:Nat}{e:TypeId}(h:Oq D w B e s zs):∀c,s.blk=some c→B≤c∧c<w.w.heap.size:=by
 obtain⟨ts,g1,_⟩:=h;exact g1.from_
theorem Rdv.at2h{ts:List (Sl × Bool)}(h:Rdv w 2 s (ts.flatMap iv))(hi:i=j)(hj:j<ts.length)(hK:∀a:Addr,(∀w',Ext aa w w'→w'.w.cell? a=some ts[j].1.v∧w'.w.cell? (a.add 0)=some ts[j].1.v∧w'.w.cell? (a.add 1)=some (.bool ts[j].2))→K a):ixa s i 2 K:=by
 subst hi;obtain⟨h1,h2,h3,h4⟩:=h;rw [gx] at h1;obtain⟨b,o,hp,hV,hc⟩:=h4 (λe=>by have:=congrArg List.length e;rw [gx] at this;simp at this;omega);obtain⟨g0,g1⟩:=qe hj;refine⟨⟨b,o,none⟩,hp,om,om,?_⟩;rw [eX];have e:o+(j:Int).toNat*2=o+2*j:=om;rw [e];have k0:=hc _ _ g0;have k1:=hc _ _ g1;have hb:b<w.w.heap.size:=World.block_lt_of_cell? w.w _ k0;refine hK _ λw' x=>?_
 have k0':=(World.cell?_of_block (a:=⟨b,o+2*j,none⟩) (x.block b hb (λh=>h) (.inr hV))).trans k0;have k1':=(World.cell?_of_block (a:=⟨b,o+(2*j+1),none⟩) (x.block b hb (λh=>h) (.inr hV))).trans k1;exact⟨k0',by rw [eX];exact k0',by rw [eX];exact k1'⟩
theorem Rq.ixh(h:Rq D w s zs)(hi:i=j)(hj:j<zs.length)(hK:∀(a:Addr) (t:Sl × Bool),El D w t (zs.getD j 0)→(∀w',Ext aa w w'→w'.w.cell? a=some t.1.v∧w'.w.cell? (a.add 0)=some t.1.v∧w'.w.cell? (a.add 1)=some (.bool t.2))→K a):ixa s i 2 K:=by
 obtain⟨ts,h1,h2,h3⟩:=h;exact h1.at2h hi om λa k=>hK a _ (h3 j om) k
def Rb(w:TW)(s:Sl)(zs:List Int)(n:Nat):Prop:=∃ts:List (Sl × Bool),Rdv w 2 s (ts.flatMap iv)∧ts.length=zs.length∧∀i (h:i<ts.length),Iz w ts[i].1 ts[i].2 (zs.getD i 0)∧ts[i].1.n≤n
theorem Rb.ri(h:Rb w s zs n):Ri w s zs:=by
 obtain⟨ts,h1,h2,h3⟩:=h;exact⟨ts,h1,h2,λi hi=>(h3 i hi).1⟩
theorem Rb.ext{w':TW}(h:Rb w s zs n)(e:Ext aa w w'):Rb w' s zs n:=by
 obtain⟨ts,h1,h2,h3⟩:=h;exact⟨ts,h1.extN e,h2,λi hi=>⟨(h3 i hi).1.ext e,(h3 i hi).2⟩⟩
theorem Rb.here(h:Rb w s zs n):Rb w.here s zs n:=by
 obtain⟨ts,h1,h2,h3⟩:=h;exact⟨ts,h1,h2,λi hi=>⟨(h3 i hi).1.here,(h3 i hi).2⟩⟩
theorem Iz.at(h:Iz w s neg z):Iz (w.at k) s neg z:=h.imp λ_ h=>⟨h.1.at,h.2⟩
theorem Rb.at(h:Rb w s zs n):Rb (w.at k) s zs n:=by
 obtain⟨ts,h1,h2,h3⟩:=h;exact⟨ts,h1,h2,λi hi=>⟨(h3 i hi).1.at,(h3 i hi).2⟩⟩
theorem Iz.sz_n(h:Iz w s neg z):sz z.natAbs≤s.n:=by
 obtain⟨l,hl,hv⟩:=h.abs;rw [←hv,hl.len];exact df hl.sm
theorem Rb.szs(h:Rb w s zs n):∀i,sz (zs.getD i 0).natAbs≤n:=λi=>by
 obtain⟨ts,h1,h2,h3⟩:=h;by_cases hi:i<ts.length
 ·exact Nat.le_trans (h3 i hi).1.sz_n (h3 i hi).2
 ·rw [List.getD_eq_getElem?_getD,List.getElem?_eq_none om];simp [sz0]
theorem Iz.cutn{z:Int}(h:Iz w s neg z)(n:Nat):∃z',Iz w (s.cut 0 (min n s.n) 1) neg z'∧(s.cut 0 (min n s.n) 1).n≤n:=by
 obtain⟨v,⟨l,hl,hv⟩,hz⟩:=h;refine⟨_,⟨_,(hl.take n).nt,rfl⟩,?_⟩;simp [Sl.cut];omega
theorem wB(h:Iz w s neg z):Ct Pg F.cw [.agg #[s.v,.bool neg],.int .i64 n] w aa [.agg [.slice,.bool]] λ(s':Sl)(neg':Bool) _=>s'=s.cut 0 (min n s.n) 1∧neg'=neg:=by
 refine Ct.cw ?_;unfold Sh.cw;obtain⟨v,⟨l,hl,hv⟩,hz⟩:=h;intro w1 e1 w2 e2;have e:=(e1.trans e2).drew;refine c1 (abd (hl.here.ext e)) ?_;rintro s' w3 e3 rfl;intro w4 e4;exact⟨(_,neg,()),rfl,(e.trans e3).trans e4,rfl,rfl⟩
theorem vC{zs:List Int}(ha:Ri w a zs)(hk:k≤1048576):Ct Pg F.cj [a.v,.int .i64 k,.int .i64 n] w aa [.one .slice] λ(s':Sl) w'=>∃zs',Rb w' s' zs' n∧zs'.length≤k:=by
 refine Ct.cj ?_;unfold Sh.cj;have na:=ha.len;obtain⟨ts0,g1,g2,g3⟩:=ha.here;refine j1 (λ(s':Sl) w'=>(∃zs',Rb w' s' zs' n∧zs'.length≤k)∧Ext aa w.here w') ?_ ?_
 ·refine lp2 (λm (out:Sl) (i:Int) w2=>∃(j:Nat) (ts:List (Sl × Bool)) (zs':List Int),i=j∧m=k-j∧j≤k∧ts.length=j∧zs'.length=j∧Own w2 w.here.w.heap.size T.af 2 out (ts.flatMap iv)∧(∀i (h:i<ts.length),Iz w.here ts[i].1 ts[i].2 (zs'.getD i 0)∧ts[i].1.n≤n)∧Ext aa w.here w2) k ⟨0,[],[],rfl,om,om,rfl,rfl,Own.nil2 _ _ _,λi hi=>by simp at hi,Ext.refl _ _⟩ ?_;rintro m out i w2 ⟨j,ts,zs',rfl,rfl,hj,ht,hz,ho,hel,e2⟩;refine j1 (λ(b:Bool) w3=>b=decide (j<zs.length∧j<k)∧w3=w2) ?_ ?_
  ·refine ac (λh=>⟨?_,rfl⟩) (λh=>⟨?_,rfl⟩)
   ·rw [decide_eq_decide];omega
   ·symm;rw [decide_eq_false_iff_not];omega
  rintro b w3 ⟨rfl,rfl⟩;refine ac (λh=>?_) (λh=>?_)
  ·refine (g1.extN e2).at2 rfl om λad k0 k1 k2=>ldp k1 k2 ?_
   have hz0:=g3 j om;refine cl0 (wB (hz0.ext e2)) ?_;intro r rn w4 e4 hr;obtain⟨rfl,rfl⟩:=hr;obtain⟨z',hz',hn'⟩:=hz0.cutn n;refine push2 (w0:=w.here) (ho.ext e4 λ_ _ h=>h) (e2.trans e4) om λs' w5 h5 e5 _ _=>ab om om ⟨k-(j+1),om,j+1,ts++[_],zs'++[z'],om,rfl,om,by simp [ht],by simp [hz],h5,λi hi=>?_,e5⟩
   simp only [List.length_append,List.length_singleton] at hi;rcases Nat.lt_or_ge i ts.length with hlt|hge
   ·rw [List.getElem_append_left hlt,show (zs'++[z']).getD i 0=zs'.getD i 0 by simp [List.getD_eq_getElem?_getD,List.getElem?_append_left (show i<zs'.length by omega)]];exact hel i hlt
   ·have:i=ts.length:=om;subst this;rw [List.getElem_append_right (Nat.le_refl _),show (zs'++[z']).getD ts.length 0=z' by rw [ht,←hz];simp];simp only [Nat.sub_self,List.getElem_singleton];exact⟨hz',hn'⟩
  ·exact⟨⟨zs',⟨ts,ho.rdv,om,λi hi=>⟨(hel i hi).1.ext e2,(hel i hi).2⟩⟩,om⟩,e2⟩
 rintro s' w' ⟨⟨zs',h1,h2⟩,e⟩;exact rt1 (c:=.slice) _ e ⟨zs',h1.at,h2⟩
theorem xU(ha:Rb w a zs n)(hn:n≤274877906944)(hl:zs.length≤1048576):Ct Pg F.cS [a.v] w aa [.one .slice] λ(s':Sl) w'=>Oq (dg B32) w' w.w.heap.size T.cd s' (ae zs):=by
 refine Ct.cS ?_;unfold Sh.cS;have na:=ha.ri.len;obtain⟨ts0,g1,g2,g3⟩:=ha.here;refine j1 (λ(s':Sl) w'=>Oq (dg B32) w' w.here.w.heap.size T.cd s' zs∧Ext aa w.here w') ?_ ?_
 ·refine lp2 (λm (out:Sl) (i:Int) w2=>∃j:Nat,i=j∧m=zs.length-j∧j≤zs.length∧Oq (dg B32) w2 w.here.w.heap.size T.cd out (zs.take j)∧Ext aa w.here w2) zs.length ⟨0,rfl,om,om,Oq.nil _ _ _ _,Ext.refl _ _⟩ ?_;rintro m out i w2 ⟨j,rfl,rfl,hj,ho,e2⟩;refine ac (λh=>?_) (λh=>?_)
  ·refine (g1.extN e2).at2 rfl om λad k0 k1 k2=>ldp k1 k2 ?_
   obtain⟨hz0,hzn⟩:=g3 j om;refine cl0 (xW (hz0.ext e2) om) ?_;intro r rn w4 e4 hr;obtain⟨hr,hrf⟩:=hr;have hr:Zr w4 r rn (zs.getD j 0):=hr;refine (ho.ext e4).push (e2.trans e4) (by simp;omega) hr.el (λhne c hc=>⟨λhs=>?_,hr.1.lt_blk hne c hc⟩) λs' w5 h5 e5 _=>ab om om ⟨zs.length-(j+1),om,j+1,om,rfl,om,by rw [dy zs om];exact h5,e5⟩
   have h1:=hrf c hc;have h2:=(ho.lt_blk c hs).2;have h1:w2.w.heap.size≤c:=h1;omega
  ·have:j=zs.length:=om;subst this;exact⟨by rwa [List.take_of_length_le (Nat.le_refl _)] at ho,e2⟩
 rintro s' w2 ⟨ho,e2⟩;refine c1 (rT ho.rq om) ?_;rintro s1 w3 e3 rfl;have hc:=(ho.cut (ao zs)).ext e3;rw [iD] at hc;exact rt1 (c:=.slice) _ (e2.trans e3) hc.at
theorem qX(ha:Rq (dg B32) w a zs)(hl:zs.length≤1048576)(hz:∀i,dz (zs.getD i 0).natAbs≤274877906944):Ct Pg F.ct [a.v] w aa [.one .slice] λ(s':Sl) w'=>Oq (dg W64) w' w.w.heap.size T.af s' zs:=by
 refine Ct.ct ?_;unfold Sh.ct;have na:=ha.len;refine j1 (λ(s':Sl) w'=>Oq (dg W64) w' w.here.w.heap.size T.af s' zs∧Ext aa w.here w') ?_ ?_
 ·refine lp2 (λm (out:Sl) (i:Int) w2=>∃j:Nat,i=j∧m=zs.length-j∧j≤zs.length∧Oq (dg W64) w2 w.here.w.heap.size T.af out (zs.take j)∧Ext aa w.here w2) zs.length ⟨0,rfl,om,om,Oq.nil _ _ _ _,Ext.refl _ _⟩ ?_;rintro m out i w2 ⟨j,rfl,rfl,hj,ho,e2⟩;refine ac (λh=>?_) (λh=>?_)
  ·refine (ha.here.ext e2).ix rfl om λad t ht k0 k1 k2=>ldp k1 k2 ?_
   refine cl0 (aaN ht.zr (hz j)) ?_;intro r rn w4 e4 hr;have hr:Io w4 w2.w.heap.size r rn (zs.getD j 0):=hr;refine (ho.ext e4).push (e2.trans e4) (by simp;omega) hr.el (λhne c hc=>⟨λhs=>?_,(Ow.from_ hr.1 c hc).2⟩) λs' w5 h5 e5 _=>ab om om ⟨zs.length-(j+1),om,j+1,om,rfl,om,by rw [dy zs om];exact h5,e5⟩
   have h1:=Ow.blk_le hr.1 c hc;have h2:=(ho.lt_blk c hs).2;omega
  ·have:j=zs.length:=om;subst this;exact⟨by rwa [List.take_of_length_le (Nat.le_refl _)] at ho,e2⟩
 rintro s' w2 ⟨ho,e2⟩;exact rt1 (c:=.slice) _ e2 ho.at
def ak(b:Int):List Int→Int
 | []=>0
 | z::l=>z+b*ak b l
end
end Go.Proofs.YtpbimnlggalnfaaGreatDoor.Zg
