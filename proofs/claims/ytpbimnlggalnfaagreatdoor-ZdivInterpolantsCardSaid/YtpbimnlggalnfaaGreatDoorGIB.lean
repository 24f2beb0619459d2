/- A part of the proofs of this seat's laws. -/
import Derived.Test.YtpbimnlggalnfaaGreatDoorGIA
import Derived.Test.YtpbimnlggalnfaaGreatDoorGP
import Derived.Test.YtpbimnlggalnfaaGreatDoorGP1
import Derived.Test.YtpbimnlggalnfaaGreatDoorGP2
import Derived.Test.YtpbimnlggalnfaaGreatDoorGP3
import Derived.Test.YtpbimnlggalnfaaGreatDoorGP6
import Derived.Test.YtpbimnlggalnfaaGreatDoorGA
import Derived.Test.YtpbimnlggalnfaaGreatDoorGKA
import Derived.Test.YtpbimnlggalnfaaGreatDoorGKC
import Derived.Test.YtpbimnlggalnfaaGreatDoorGB
import Derived.Test.YtpbimnlggalnfaaGreatDoorGK
import Derived.Test.YtpbimnlggalnfaaGreatDoorGQ
import Derived.Test.YtpbimnlggalnfaaGreatDoorGP4
import Derived.Test.YtpbimnlggalnfaaGreatDoorGP5
import Derived.Test.YtpbimnlggalnfaaGreatDoorGS
import Derived.Test.YtpbimnlggalnfaaGreatDoorGC
import Derived.Deep.SlicePairs
import Derived.Deep.Fields
set_option linter.unusedVariables false
set_option linter.unusedSimpArgs false
set_option linter.unnecessarySimpa false
namespace Go.Proofs.YtpbimnlggalnfaaGreatDoor.Zg
open Go.RowKit
section
variable {x:Nat}
theorem kZ{K:Nat}(h:x<2^K):sz x≤K/64+1:=et (by rw [kR,←Nat.pow_mul];exact Nat.lt_of_lt_of_le h (Nat.pow_le_pow_right dcd om))
theorem mg{k:Nat}(h:bl x≤k):x<2^k:=Nat.lt_of_lt_of_le (iE x) (Nat.pow_le_pow_right dcd h)
end
theorem lp5{c1 c2 c3 c4 c5:CK}{body:Tel [c1,c2,c3,c4,c5] (TW→(Tel [c1,c2,c3,c4,c5] (TW→Prop))→Prop)}{x1:CV c1}{x2:CV c2}{x3:CV c3}{x4:CV c4}{x5:CV c5}{w:TW}(I:Nat→CV c1→CV c2→CV c3→CV c4→CV c5→TW→Prop)(m:Nat)(h0:I m x1 x2 x3 x4 x5 w)(hs:∀m x1 x2 x3 x4 x5 w,I m x1 x2 x3 x4 x5 w→body x1 x2 x3 x4 x5 w (λy1 y2 y3 y4 y5 w'=>∃m',m'<m∧I m' y1 y2 y3 y4 y5 w')):Lp [c1,c2,c3,c4,c5] body x1 x2 x3 x4 x5 w:=⟨I,⟨m,h0⟩,hs⟩
section
variable {w:TW}
theorem rT(x:Nat):bl x≤64*sz x:=dp (by have:=gM x;rwa [show W64^sz x=2^(64*sz x) by rw [Nat.pow_mul]] at this)
theorem polyz_at{a:Sl}{zs:List Int}{i:Nat}(ha:Ri w a zs):Ct Pg F.iY [a.v,.int .i64 i] w aa [.agg [.slice,.bool]] λ(s:Sl)(n:Bool) w'=>Iz w' s n (zs.getD i 0):=by
 refine Ct.iY ?_;unfold Sh.iY;have na:=ha.len;intro w1 e1;refine ac (λh=>?_) (λh=>?_)
 ·refine (ha.here.ext e1).ix (j:=i) rfl om λad t ht _ k0 k1=>ldp k0 k1 ?_
  intro w2 e2;exact⟨(t.1,t.2,()),rfl,e1.trans e2,(ht.ext e2).at⟩
 ·intro w2 e2;refine⟨(Sl.nil,false,()),rfl,e1.trans e2,?_⟩;rw [List.getD_eq_getElem?_getD,List.getElem?_eq_none om];exact⟨0,Nt.nil _,rfl⟩
theorem xX{e:TypeId}{ts:List (Sl × Bool)}{n:Nat}{K:Nat→TW→Prop}(hn:ts.length=n)(hn2:n≤1099511627776)(hK:∀b w',Rdv w' 2 ⟨some ⟨b,0,none⟩,n,n⟩ (ts.flatMap iv)→Ext aa w w'→K b w'):nwb w (ts.flatMap iv) e K:=by
 intro b w' hw;refine hK b w' ⟨by rw [fT];show _=n*2;omega,Nat.le_refl _,by show n≤9223372036854775807;omega,λ_=>⟨b,0,rfl,λhV=>?_,λj v hj=>?_⟩⟩ (hw.ext _)
 ·rw [hw.V] at hV;have:=w.lt _ hV;have:=hw.at_;omega
 ·rw [cell_of_row w'.w b (0+j) _ e (0,0) hw.heap];simpa using hj
end
section
open Go.ChangeShapes Go.WideShapes Go.ChangeAt Go.RowKit
variable {H:Type} {P:Program} {W w:World} {base cap fuel len:Nat} {held:Bool} {t u:TypeId} {v:Value} {f0 f1:Field} {a:Option Addr}
def xF(w:World)(a:Option Addr)(len cap:Nat):Prop:=
 (a=none∧len=0∧cap=0)∨
 ∃(x:Addr) (A:Nat→Option Addr) (L C:Nat→Nat) (Z:Nat→List Int) (Bn:Nat→Bool),a=some x∧len≤cap∧cap≤maxLen∧
  ∀r,r<cap→w.cell? (x.add (r*2))=some (.slice (A r) (L r) (C r))∧w.cell? (x.add (r*2+1))=some (.bool (Bn r))∧mE .u64 w (A r) (L r) (C r) (Z r)
theorem pr{enc:TypeId × Value→H}{q:TypeId}{x:DataW H × List MemPlace}(hq:P.underlying q=some (.slice u))(hu:P.underlying u=some (.int .u64))(cu:P.cellsOf u=1)(h:DataW.trod enc P w base (λ_=>true) held fuel q [v]=some x):
  ∃a len cap zs,v=.slice a len cap∧mE .u64 w a len cap zs:=by
 rcases open_ints hq hu cu h with ⟨hcs,_⟩|⟨a,l,c,zs,hcs,_,hl,hm,hz,_,hcell,hwz⟩
 ·simp at hcs;exact⟨none,0,0,[],hcs,.inl ⟨rfl,rfl,rfl,rfl⟩⟩
 ·simp at hcs;exact⟨some a,l,c,zs,hcs,.inr ⟨_,rfl,hl,hm,by simpa using hz,hcell,hwz⟩⟩
theorem abb{enc:TypeId × Value→H}{e:TypeId}{x:DataW H × List MemPlace}(ht:P.underlying t=some (.slice e))(he:P.underlying e=some (.struct #[f0,f1]))(ce:P.cellsOf e=2)(o0:f0.offset=0)(o1:f1.offset=1)(c0:P.cellsOf f0.type=1)(c1:P.cellsOf f1.type=1)(hq:P.underlying f0.type=some (.slice u))(hu:P.underlying u=some (.int .u64))(cu:P.cellsOf u=1)(hb:P.underlying f1.type=some .bool)(h:DataW.trod enc P w base (λ_=>true) held fuel t [.slice a len cap]=some x):xF w a len cap:=by
 rcases Go.Deep.open_slice_pairs ht he ce o0 o1 c0 c1 h with ⟨hcs,_⟩|⟨y,l,c,m,n,V0,V1,D0,D1,P0,P1,hcs,_,hl,hm,hmm,_,hr⟩
 ·simp at hcs;obtain⟨rfl,rfl,rfl⟩:=hcs;exact .inl ⟨rfl,rfl,rfl⟩
 ·simp at hcs;obtain⟨rfl,rfl,rfl⟩:=hcs;simp only [if_true] at hmm;subst hmm
  have each:∀r,∃y:Option Addr × Nat × Nat × List Int × Bool,r<m→V0 r=.slice y.1 y.2.1 y.2.2.1∧V1 r=.bool y.2.2.2.2∧mE .u64 w y.1 y.2.1 y.2.2.1 y.2.2.2.1:=λr=>by
   by_cases hrm:r<m
   ·obtain⟨g0,g1,g2,g3⟩:=hr r hrm;obtain⟨a',l',c',zs,e1,e2⟩:=pr hq hu cu g2;obtain⟨b,e3,_⟩:=DataW.trod_bool hb g3;exact⟨(a',l',c',zs,b),λ_=>⟨e1,by simpa using e3,e2⟩⟩
   ·exact⟨(none,0,0,[],false),λh=>absurd h hrm⟩
  refine .inr ⟨y,λr=>(Classical.choose (each r)).1,λr=>(Classical.choose (each r)).2.1,λr=>(Classical.choose (each r)).2.2.1,λr=>(Classical.choose (each r)).2.2.2.1,λr=>(Classical.choose (each r)).2.2.2.2,rfl,hl,hm,λr hrm=>?_⟩;obtain⟨e1,e2,e3⟩:=Classical.choose_spec (each r) hrm;obtain⟨g0,g1,_⟩:=hr r hrm;exact⟨by rw [g0,e1],by rw [g1,e2],e3⟩
theorem abp{H:Type}{enc:TypeId × Value→H}{b0:Nat}{r:Reach}{d:DataW H}{p:List MemPlace}(he:P.underlying t=some (.struct #[f0,f1]))(ce:P.cellsOf t=2)(o0:f0.offset=0)(o1:f1.offset=1)(c0:P.cellsOf f0.type=1)(c1:P.cellsOf f1.type=1)(hq:P.underlying f0.type=some (.slice u))(hu:P.underlying u=some (.int .u64))(cu:P.cellsOf u=1)(hb:P.underlying f1.type=some .bool)(hv:Value.okWide P w r b0 t v)(h:DataW.Trod enc P w base (λ_=>true) held t v d p):∃a len cap zs n,v=.agg #[.slice a len cap,.bool n]∧mE .u64 w a len cap zs:=by
 obtain⟨cs,rfl,hsz⟩:=okWide_struct he hv;obtain⟨fuel,hh⟩:=h;obtain⟨ys,n,_,_,_,hyl,hf⟩:=DataW.trod_struct he hh;rw [ce] at hsz;obtain⟨xs,rfl⟩:∃xs,cs=List.toArray xs:=⟨cs.toList,smp⟩;match ys,hyl,xs,hsz with
 | [y0,y1],_,[v0,v1],_=>
  have g0:=hf 0 f0 rfl;have g1:=hf 1 f1 rfl;simp [Value.cells,o0,o1,c0,c1] at g0 g1;obtain⟨a,l,c,zs,e1,e2⟩:=pr hq hu cu g0;obtain⟨b,e3,_⟩:=DataW.trod_bool hb g1;simp at e3;subst e1 e3;exact⟨a,l,c,zs,b,rfl,e2⟩
theorem aan{zs:List Int}{n:Bool}(h:mE .u64 W a len cap zs):∃z,Iz (TW.of W) ⟨a,len,cap⟩ n z:=by
 obtain⟨l,hl⟩:=xE h;exact⟨_,vl W64 l,hl.nt,rfl⟩
theorem abK(h:xF W a len cap):∃zs,Ri (TW.of W) ⟨a,len,cap⟩ zs:=by
 rcases h with ⟨rfl,rfl,rfl⟩|⟨x,A,L,C,Z,Bn,rfl,hl,hc,hr⟩
 ·exact⟨[],[],⟨rfl,Nat.le_refl _,dcd,λh=>absurd rfl h⟩,rfl,λi h=>by simp at h⟩
 ·have hrow:∀r,∃z,r<len→Iz (TW.of W) ⟨A r,L r,C r⟩ (Bn r) z:=λr=>by
   by_cases h:r<len
   ·obtain⟨z,hz⟩:=aan (n:=Bn r) (hr r om).2.2;exact⟨z,λ_=>hz⟩
   ·exact⟨0,λh'=>absurd h' h⟩
  obtain⟨ts,hts⟩:∃ts:List (Sl × Bool),ts=(List.range len).map λr=>(⟨A r,L r,C r⟩,Bn r):=⟨_,rfl⟩
  have htl:ts.length=len:=by rw [hts];simp
  refine⟨(List.range len).map λr=>Classical.choose (hrow r),ts,⟨by rw [fT,htl];show _=len*2;omega,hl,hc,λhne=>?_⟩,by simp [htl],λi hi=>?_⟩
  ·have hpos:0<len:=by
    rcases Nat.eq_zero_or_pos len with h|h
    ·exfalso;apply hne;have:ts=[]:=List.length_eq_zero_iff.1 om;rw [this];rfl
    ·exact h
   have h0:=(hr 0 om).1;have hspot:=oK h0;obtain⟨b,o,sp⟩:=x;rw [show (Addr.add ⟨b,o,sp⟩ (0*2))=⟨b,o,sp⟩ by rfl] at hspot;simp only at hspot;subst hspot;refine⟨b,o,rfl,λh=>h,λj v hj=>?_⟩
   have hjl:j<2*len:=by
    have:=(List.getElem?_eq_some_iff.1 hj).1;rw [fT,htl] at this;exact this
   have hi2:j/2<ts.length:=om;obtain⟨k0,k1⟩:=oF hi2;obtain⟨c0,c1,_⟩:=hr (j/2) om;rw [fW] at c0 c1;have hel:ts[j/2]=(⟨A (j/2),L (j/2),C (j/2)⟩,Bn (j/2)):=by simp [hts]
   rw [hel] at k0 k1;rcases Nat.mod_two_eq_zero_or_one j with hm|hm
   ·rw [show j=2*(j/2) by omega,k0] at hj;cases hj;rw [show o+j=o+j/2*2 by omega];exact c0
   ·rw [show j=2*(j/2)+1 by omega,k1] at hj;cases hj;rw [show o+j=o+(j/2*2+1) by omega];exact c1
  ·have:=Classical.choose_spec (hrow i) om;have hel:ts[i]=(⟨A i,L i,C i⟩,Bn i):=by simp [hts]
   rw [hel]
   have hg:((List.range len).map λr=>Classical.choose (hrow r)).getD i 0=Classical.choose (hrow i):=by
    rw [List.getD_eq_getElem?_getD,List.getElem?_map,List.getElem?_range om];rfl
   rw [hg];exact this
end
end Go.Proofs.YtpbimnlggalnfaaGreatDoor.Zg
