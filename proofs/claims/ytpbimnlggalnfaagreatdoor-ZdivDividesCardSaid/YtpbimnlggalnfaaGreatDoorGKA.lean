/- A part of the proofs of this seat's laws. -/
import Derived.Test.YtpbimnlggalnfaaGreatDoorGQ
import Derived.Test.YtpbimnlggalnfaaGreatDoorGP3
import Derived.Test.YtpbimnlggalnfaaGreatDoorGP1
import Derived.Test.YtpbimnlggalnfaaGreatDoorGA
import Derived.Test.YtpbimnlggalnfaaGreatDoorGB
import Derived.Test.YtpbimnlggalnfaaGreatDoorGK
import Derived.Test.YtpbimnlggalnfaaGreatDoorGP
import Derived.Test.YtpbimnlggalnfaaGreatDoorGP4
import Derived.Test.YtpbimnlggalnfaaGreatDoorGS
import Derived.Test.YtpbimnlggalnfaaGreatDoorGC
set_option linter.unusedVariables false
set_option linter.unusedSimpArgs false
set_option linter.unnecessarySimpa false
namespace Go.Proofs.YtpbimnlggalnfaaGreatDoor.Zg
open Go.RowKit
section
variable {N X c hi q w:Nat}
theorem xP(hc:c≤2)(hqb:q<18446744073709551616)(hq3:18446744073709551616*hi+X=q*3)(hX:X+c=w+18446744073709551616)(h:w<c):3*q+c=w+(hi*18446744073709551616+1*18446744073709551616)∧hi+1≤2:=by
 refine⟨om,?_⟩
 have:hi<2:=by
  refine Nat.lt_of_not_le λh2=>?_
  have:=Nat.mul_le_mul_left 18446744073709551616 h2;omega
 omega
theorem xO(hc:c≤2)(hqb:q<18446744073709551616)(hq3:18446744073709551616*hi+X=q*3)(hX:X+c=w):3*q+c=w+hi*18446744073709551616∧hi≤2:=by
 refine⟨om,?_⟩
 have:hi<3:=by
  refine Nat.lt_of_not_le λh2=>?_
  have:=Nat.mul_le_mul_left 18446744073709551616 h2;omega
 omega
theorem xN{d:Nat}(hw:w<18446744073709551616)(hc:c≤2)(hX:X=(w+18446744073709551616-c-0)%18446744073709551616)(hd:d=if w<c+0 then 1 else 0)(hq:q=X*12297829382473034411%18446744073709551616)(hhi:hi=q*3/18446744073709551616):3*q+c=w+(hi+d)*18446744073709551616∧hi+d≤2:=by
 have hXb:X<18446744073709551616:=by rw [hX];exact Nat.mod_lt _ dcd
 have hqb:q<18446744073709551616:=by rw [hq];exact Nat.mod_lt _ dcd
 have hr:q*3%18446744073709551616=X:=by
  have e1:X*12297829382473034411*3=X+18446744073709551616*(2*X):=by
   rw [Nat.mul_assoc,show 12297829382473034411*3=1+18446744073709551616*2 from rfl,Nat.mul_add,Nat.mul_one,Nat.mul_comm X (18446744073709551616*2),Nat.mul_assoc]
  rw [hq,Nat.mod_mul_mod,e1,Nat.add_mul_mod_self_left];exact Nat.mod_eq_of_lt hXb
 have hq3:=Nat.div_add_mod (q*3) 18446744073709551616;rw [hr,←hhi] at hq3;rw [Nat.sub_zero] at hX;subst hd;clear hq hhi hr;by_cases h:w<c
 ·have hX':X+c=w+18446744073709551616:=by
   have:X=w+18446744073709551616-c:=by rw [hX];exact Nat.mod_eq_of_lt om
   clear hX hq3;omega
  clear hX;rw [if_pos om,Nat.add_mul];exact xP hc hqb hq3 hX' h
 ·have hX':X+c=w:=by
   have:X=w-c:=by
    rw [hX,show w+18446744073709551616-c=w-c+18446744073709551616 by omega,Nat.add_mod_right];exact Nat.mod_eq_of_lt om
   clear hX hq3;omega
  clear hX;rw [if_neg om,Nat.add_zero];exact xO hc hqb hq3 hX'
theorem yZ{Q n:Nat}(h:3*Q=N+W64^n*c)(hc:c≤2):(c=0↔N%3=0):=by
 have hp:W64^n%3=1:=by rw [Nat.pow_mod,show W64%3=1 from rfl,Nat.one_pow]
 obtain⟨m,hm⟩:∃m,W64^n=3*m+1:=⟨W64^n/3,om⟩;rw [hm] at h;have:c=0∨c=1∨c=2:=om;rcases this with rfl|rfl|rfl<;>omega
theorem toom_Third{w:TW}{a:Sl}(ha:Nt w a N)(hn:sz N≤1099511627776):Ct Pg F.jg [a.v] w aa [.one .slice,.one .bool] λ(s':Sl)(ok:Bool) w'=>On w' w.w.heap.size s' (if N%3=0 then N/3 else 0)∧ok=decide (N%3=0):=by
 refine Ct.jg ?_;unfold Sh.jg;refine c1 (limb_Norm ha.here hn) ?_;intro s w1 e1 h1;have hl:=h1.len;have hDn:(dg W64 N).length=sz N:=rfl;have hDsm:=h1.sm;have hDv:vl W64 (dg W64 N)=N:=aV W2 N;rw [On] at h1;generalize dg W64 N=D at*;refine j1 (λ(c:Int) w2=>∃(d:Nat) (P:List Nat),c=d∧d≤2∧P.length=D.length∧Ow w2 w.here.w.heap.size s P∧3*vl W64 P=N+W64^D.length*d∧Ext aa w.here w2) ?_ ?_
 ·refine lp2 (λm (c i:Int) w2=>∃(j d:Nat) (P:List Nat),c=d∧i=j∧m=D.length-j∧j≤D.length∧d≤2∧P.length=D.length∧Ow w2 w.here.w.heap.size s P∧3*vl W64 (P.take j)=vl W64 (D.take j)+W64^j*d∧(∀k,j≤k→P.getD k 0=D.getD k 0)∧Ext aa w.here w2) D.length ⟨0,0,D,rfl,rfl,om,om,om,rfl,h1,by simp [gw],λ_ _=>rfl,e1⟩ ?_;rintro m c i w2 ⟨j,d,P,rfl,rfl,rfl,hj,hd,hP,ho,hv,hz,e2⟩;refine ac (λh=>?_) (λh=>?_)
  ·have hj1:j<P.length:=om;have hw:=ho.rd.lt j;have ht:=aj W64 D j;have hg:=hz j (Nat.le_refl _);refine ho.rd.ix rfl hj1 ?_;rw [←hg] at ht
   have hset:∀q,vl W64 ((P.set j q).take (j+1))=vl W64 (P.take j)+W64^j*q:=λq=>by
    rw [aj,List.take_set_of_le (Nat.le_refl _)];simp [hj1]
   generalize P.getD j 0=x at*;refine⟨x,d,0,rfl,rfl,rfl,om,?_⟩;obtain⟨X,hX⟩:∃X,X=(x+18446744073709551616-d-0)%18446744073709551616:=⟨_,rfl⟩;obtain⟨b,hb⟩:∃b:Nat,b=(if x<d+0 then 1 else 0):=⟨_,rfl⟩;rw [←hX,←hb];obtain⟨q,hq⟩:∃q,q=X*12297829382473034411%18446744073709551616:=⟨_,rfl⟩;have hqb:q<18446744073709551616:=by rw [hq];exact Nat.mod_lt _ dcd
   refine gy (y:=X*12297829382473034411) smp ?_;rw [w64,←hq];refine ho.store rfl hj1 hqb rfl λw3 h3 e3=>?_
   refine c2 (bits_Mul64 hqb (y:=3) dcd) ?_;rintro hi lo w4 e4 ⟨rfl,-⟩;obtain⟨H,hH⟩:∃H,H=q*3/18446744073709551616:=⟨_,rfl⟩;rw [w64,←hH];obtain⟨g1,g2⟩:=xN hw hd hX hb hq hH;refine ai (y:=H+b) smp (by rw [w64];omega) (ab om om ⟨D.length-(j+1),om,j+1,H+b,_,rfl,om,rfl,om,g2,by simp [hP],h3.ext e4,?_,λk hk=>(getD_set_ne om).trans (hz k om),(e2.own e3 ho.blk_le).trans e4⟩);rw [hset,ht,Nat.mul_add,hv,Nat.pow_succ];have:W64^j*(3*q+d)=W64^j*(x+(H+b)*W64):=by rw [g1]
   grind
  ·have:j=D.length:=om;subst this;rw [List.take_of_length_le om,List.take_of_length_le (Nat.le_refl _),hDv] at hv;exact⟨d,P,rfl,hd,hP,ho,hv,e2⟩
 rintro c w2 ⟨d,P,rfl,hd,hP,ho,hv,e2⟩;have hmod:=yZ hv hd
 have hd0:((d:Int) != 0)=!decide (N%3=0):=by
  by_cases h:N%3=0
  ·rw [hmod.2 h];simp [h]
  ·have:d≠0:=λh'=>h (hmod.1 h')
   simp [h];omega
 by_cases h:N%3=0
 ·refine ap (by rw [hd0];simp [h]) ?_;have hd:=hmod.2 h;subst hd;have hq:vl W64 P=N/3:=om;have hsz:=aq (show N/3≤N by omega);refine c1 (limb_Norm (x:=N/3) (by have:=ho.rd.nt;rwa [hq] at this) om) ?_;intro s2 w3 e3 h3;refine rt2 (c:=.slice) (d:=.bool) _ _ (e2.trans e3) ⟨?_,by simp [h]⟩;rw [if_pos h];exact (h3.less e2.size).at
 ·refine aQ (by rw [hd0];simp [h]) ?_;refine rt2 (c:=.slice) (d:=.bool) Sl.nil false e2 ⟨?_,by simp [h]⟩;rw [if_neg h];exact On.nil _ _
end
section
variable {w:TW} {e n t:Nat} {p:Option Addr} {a b m:Int} {tab:List Int} {la:List Nat}
def bT(w:TW):Option Addr→List Nat→Nat→Prop
 | p,[],t=>p=some ⟨t,0,none⟩
 | p,b::bs,t=>p=some ⟨b,0,none⟩∧¬w.V b∧∃q,w.w.cell? ⟨b,0,none⟩=some (.pointer q)∧bT w q bs t
theorem bT.here{w:TW}{t:Nat}:∀{bs:List Nat} {p:Option Addr},bT w p bs t→bT w.here p bs t
 | [],_,h=>h
 | _::_,_,⟨h1,h2,q,h3,h4⟩=>⟨h1,h2,q,h3,bT.here h4⟩
theorem bT.at{w:TW}{t k:Nat}:∀{bs:List Nat} {p:Option Addr},bT w p bs t→bT (w.at k) p bs t
 | [],_,h=>h
 | _::_,_,⟨h1,h2,q,h3,h4⟩=>⟨h1,h2,q,h3,bT.at h4⟩
theorem bT.extX{w w':TW}{X:Nat→Prop}{t:Nat}(hx:Ext X w w'):∀{bs:List Nat} {p:Option Addr},bT w p bs t→(∀b∈bs,¬X b)→bT w' p bs t
 | [],_,h,_=>h
 | b::bs,_,⟨h1,h2,q,h3,h4⟩,hX=>by
  have hlt:b<w.w.heap.size:=World.block_lt_of_cell? w.w _ h3;exact⟨h1,λhV=>(hx.new b hV).elim h2 λh'=>by omega,q,(World.cell?_of_block (hx.block b hlt (hX b (List.mem_cons_self ..)) (.inr h2))).trans h3,bT.extX hx h4 λc hc=>hX c (List.mem_cons_of_mem _ hc)⟩
theorem bT.ext{w':TW}{bs:List Nat}(h:bT w p bs t)(hx:Ext aa w w'):bT w' p bs t:=h.extX hx λ_ _ h=>h
theorem bT.en(h:bT w p [e] t):En w p e t:=by
 obtain⟨h1,h2,q,h3,h4⟩:=h;cases h4;exact⟨h1,h3,h2⟩
theorem En.chain(h:En w p e t):bT w p [e] t:=⟨h.is,h.V,_,h.cell,rfl⟩
theorem bT.lt{w:TW}{t:Nat}:∀{bs:List Nat} {p:Option Addr},bT w p bs t→∀b∈bs,b<w.w.heap.size
 | [],_,_,b,hb=>by cases hb
 | c::bs,_,⟨_,_,q,h3,h4⟩,b,hb=>by
  rcases List.mem_cons.1 hb with rfl|hb
  ·exact World.block_lt_of_cell? w.w _ h3
  ·exact bT.lt h4 b hb
theorem Tn.putj{xs:List Int}(h:w.w.heap[t]?=some (.cells (xs.map (Value.int .i64)).toArray T.dj (0,0)))(hV:¬w.V t){j:Nat}(hj:j<xs.length)(x:Int){K:TW→Prop}(hK:∀w',w'.w.heap[t]?=some (.cells ((xs.set j x).map (Value.int .i64)).toArray T.dj (0,0))→¬w'.V t→Ext (λk=>k=t) w w'→K w'):stc w ⟨t,j,none⟩ (.int .i64 x) K:=by
 refine⟨⟨.int .i64 xs[j],?_⟩,by simp [World.frozen?,h],hV,hK (w.set ⟨t,j,none⟩ (.int .i64 x)) ?_ hV ⟨rfl,rfl,rfl,by simp [TW.set,World.setCell],rfl,λ_ h=>h,λ_ h=>.inl h,λk _ hX _=>Below.heap_setCell w.w _ _ k hX,λk _=>jY _ _ _ _⟩⟩
 ·rw [cell_of_row w.w t j _ T.dj (0,0) h];simp [hj]
 ·simp [TW.set,World.setCell,Array.getElem?_modify,h,List.map_set]
theorem Tn.drew(h:Tn w t m a b tab):Tn w.drew t m a b tab:=⟨h.at_,h.V⟩
theorem kK(h:Tn w t m a b tab)(h0:0≤a)(h1:a≤4611686018427387904):Ct Pg F.br [.pointer (some ⟨t,0,none⟩)] w (λk=>k=t) [.one (.int .i64)] λ(_:Int) w'=>Tn w' t m (a+1) (max b (a+1)) tab:=by
 refine Ct.br ?_;unfold Sh.br;refine ah ⟨a,(h.here.cell 1).trans rfl,ab om om (ah (Tn.putj (j:=1) h.here.at_ h.here.V smp _ λw1 g1 v1 e1=>?_))⟩;have H1:Tn w1 t m (a+1) b tab:=⟨g1,v1⟩;refine ah ⟨b,(H1.drew.cell 2).trans rfl,ah ⟨a+1,(H1.drew.cell 1).trans rfl,ag (y:=max b (a+1)) (by split<;>omega) (ah (Tn.putj (w:=w1.drew) (j:=2) g1 v1 smp _ λw2 g2 v2 e2=>?_))⟩⟩;have H2:Tn w2 t m (a+1) (max b (a+1)) tab:=⟨g2,v2⟩;exact ah ⟨a+1,(H2.cell 1).trans rfl,rt1 (c:=.int .i64) _ (e1.drew.trans e2) H2.at⟩
theorem kJ(h:Tn w t m (a+1) b tab)(h0:0≤a)(h1:a≤4611686018427387904):Ct Pg F.bq [.pointer (some ⟨t,0,none⟩)] w (λk=>k=t) [.one (.int .i64)] λ(_:Int) w'=>Tn w' t m a b tab:=by
 refine Ct.bq ?_;unfold Sh.bq;refine ah ⟨a+1,(h.here.cell 1).trans rfl,?_⟩;refine j0 (λw'=>Tn w' t m a b tab∧Ext (λk=>k=t) w.here w') ?_ ?_
 ·refine aQ (by simp;omega) ?_;refine ah ⟨a+1,(h.here.cell 1).trans rfl,ab om om (ah (Tn.putj (j:=1) h.here.at_ h.here.V smp _ λw1 g1 v1 e1=>⟨⟨?_,v1⟩,e1⟩))⟩;rw [g1];simp
 rintro w2 ⟨H2,e2⟩;exact ah ⟨a,(H2.cell 1).trans rfl,rt1 (c:=.int .i64) _ e2 H2.at⟩
theorem kara_New{t:HL I11}:Ct Pg F.kt [.agg (aM I11 t).toArray] w aa [.one .ptr] λ(p:Option Addr) w'=>∃k e b tab,bT w' p [k,e] b∧w.w.heap.size≤b∧(∀c∈[k,e],w.w.heap.size≤c∧c≠b)∧mA tab∧Tn w' b 0 0 0 tab:=by
 refine Ct.kt ?_;unfold Sh.kt;intro w1 e1;refine c1 (school_New (t:=t)) ?_;rintro p w2 e2 ⟨e,b,tab,hen,hbe,hbt,hne,htab,htn⟩;intro c w3 hn;have hlt:=htn.lt;have hc:c=w2.w.heap.size:=hn.at_;have hle:w.w.heap.size≤w1.w.heap.size:=e1.size;have hle2:=e2.size;refine rt1 (c:=.ptr) (some ⟨c,0,none⟩) ((e1.trans e2).trans (hn.ext _)) ⟨c,e,b,tab,?_,om,?_,htab,(htn.ext (hn.ext _)).at⟩
 ·refine⟨rfl,λhV=>?_,p,?_,(hen.chain.ext (hn.ext _)).at⟩
  ·have hV:w3.V c:=hV;rw [hn.V] at hV;have:=w2.lt _ hV;omega
  ·show w3.w.cell? _=_;rw [cell_of_row w3.w c 0 _ T.qU (0,0) hn.heap];rfl
 ·simp only [List.mem_cons,List.not_mem_nil,or_false];rintro x (rfl|rfl)
  ·exact⟨om,om⟩
  ·exact⟨om,hne⟩
def pc(l:List Nat)(f n:Nat):List Nat:=(l.drop f).take n++List.replicate (n-((l.drop f).take n).length) 0
theorem j9(l:List Nat)(f n:Nat):(pc l f n).length=n:=by simp [pc];omega
theorem rX(b:Nat)(l:List Nat)(f n:Nat):vl b (pc l f n)=vl b ((l.drop f).take n):=by rw [pc,dY,jP];simp
theorem kara_piece{a:Sl}{f:Nat}(ha:Rd w a la)(hf:f≤1099511627776)(hn:n≤1099511627776):Ct Pg F.fH [a.v,.int .i64 f,.int .i64 n] w aa [.one .slice] λ(s':Sl) w'=>Ow w' w.w.heap.size s' (pc la f n):=by
 refine Ct.fH ?_;unfold Sh.fH;have na:=ha.len;refine bW (N:=n) rfl om λs w1 h1 hs1 e1 _=>?_
 refine j0 (λw2=>Ow w2 w.here.w.heap.size s (pc la f n)∧Ext aa w.here w2) ?_ ?_
 ·refine ac (λh=>?_) (λh=>?_)
  ·refine ab om om (ag (y:=((min (f+n) la.length:Nat):Int)) (by split<;>omega) ?_);have hc:=ha.rv.2.1;refine⟨om,om,om,?_⟩;have hcut:=(ha.here.ext e1).cut (lo:=f) (hi:=min (f+n) la.length) om om;rw [Int.toNat_natCast,Int.toNat_natCast]
   have hl:((la.take (min (f+n) la.length)).drop f)=(la.drop f).take n:=by
    rw [List.drop_take,List.take_eq_take_iff];simp;omega
   rw [hl] at hcut;have hll:((la.drop f).take n).length≤n:=by simp;omega
   refine h1.cpy hcut (by simpa using hll) λw2 h2 e2=>⟨?_,e1.own e2 h1.blk_le⟩
   rwa [List.drop_replicate] at h2
  ·refine⟨?_,e1⟩;have:(la.drop f).take n=[]:=by rw [List.drop_of_length_le om];simp
   rw [pc,this];simpa using h1
 rintro w2 ⟨h2,e2⟩;exact rt1 (c:=.slice) _ e2 h2.at
theorem kara_wide{a:Sl}(ha:Rd w a la)(hn:n≤1099511627776):Ct Pg F.jr [a.v,.int .i64 n] w aa [.one .slice] λ(s':Sl) w'=>Ow w' w.w.heap.size s' (pc la 0 n):=by
 refine Ct.jr ?_;unfold Sh.jr;refine c1 (kara_piece (f:=0) ha.here dcd hn) ?_;intro s' w' e h;exact rt1 (c:=.slice) _ e h.at
end
section
variable {w:TW} {p:Option Addr} {e h k t x:Nat} {Y:Nat→Prop}
structure In2 (f:Value) (t:Nat) (tab:List Int) (Y:Nat→Prop) {σ:Type} (St:σ→TW→Prop) (L:Int→Nat→Nat→Prop) (Q:σ→Int→Int→Int→Nat→Nat→σ→Int→Int→Prop):Prop where
 mv:∀{s:σ} {w:TW} {k:Nat},St s w→St s (w.at k)
 stay:∀{s:σ} {w w':TW},St s w→Ext (λk=>k=t) w w'→St s w'
 new:∀{s:σ} {w:TW} {b:Nat},St s w→Y b→b<w.w.heap.size∧¬w.V b
 call:∀{w:TW} {s:σ} {m now deep:Int} {a b:Sl} {la lb:List Nat},Tn w t m now deep tab→St s w→Rd w a la→Rd w b lb→(∀c,a.blk=some c→c≠t∧¬Y c)→(∀c,b.blk=some c→c≠t∧¬Y c)→L now la.length lb.length→
  ∀{K:Sl→TW→Prop},(∀x w' s' m' deep',Ext (λk=>k=t∨Y k) w w'→On w' w.w.heap.size x (vl W64 la*vl W64 lb)→Tn w' t m' now deep' tab→St s' w'→Q s m now deep la.length lb.length s' m' deep'→K x w')→clv Pg f [a.v,b.v] w [.one .slice] K
theorem ch2(h:bT w p [k,e] t){K:Addr→Prop}(hK:K ⟨t,0,none⟩):nck p λa2=>ldc (.ptr) w a2 λ(v:Option Addr)=>nck v λa3=>ldc (.ptr) w a3 λ(v1:Option Addr)=>nck v1 K:=by
 obtain⟨rfl,_,q,h3,rfl,_,q2,h4,rfl⟩:=h;exact ah ⟨_,h3,ah ⟨_,h4,ah hK⟩⟩
theorem Ext.weak{X:Nat→Prop}{w':TW}(h:Ext X w w')(hXY:∀b,X b→Y b):Ext Y w w':=h.mono λk _ hx=>hXY k hx
theorem zQ{A0 A1 B0 B1 p:Nat}:A0*B0+p*(((A0+A1)*(B0+B1)-(A0*B0+A1*B1))+p*(A1*B1))=(A0+p*A1)*(B0+p*B1):=by
 have:(A0+A1)*(B0+B1)-(A0*B0+A1*B1)=A0*B1+A1*B0:=by
  have:(A0+A1)*(B0+B1)=A0*B0+A1*B1+(A0*B1+A1*B0):=by grind
  omega
 rw [this];grind
theorem zh{y:Nat}(hx:sz x≤h)(hy:sz y≤h):sz (x+y)≤h+1:=by have:=kI x y;omega
theorem rY(hx:sz x≤h):vl W64 (pc (dg W64 x) 0 h)=x:=by
 rw [rX,List.drop_zero,List.take_of_length_le (by rw [aA];exact hx),aV W2]
set_option maxHeartbeats 400000 in
theorem zS{m now deep:Int}{tab:List Int}{f:Value}{σ:Type}{St:σ→TW→Prop}{L:Int→Nat→Nat→Prop}{Q:σ→Int→Int→Int→Nat→Nat→σ→Int→Int→Prop}{s0:σ}{a b:Sl}{la lb:List Nat}(hI:In2 f t tab Y St L Q)(hc:bT w p [k,e] t)(hne:∀c∈[k,e],c≠t∧¬Y c)(hm:Tn w t m now deep tab)(hS:St s0 w)(ha:Rd w a la)(hb:Rd w b lb)(hat:la≠[]→a.blk≠some t)(hbt:lb≠[]→b.blk≠some t)(hla:la.length≤16384)(hlb:lb.length≤16384)(h0:0≤now)(h1:now≤4611686018427387904)(hh:h=(max la.length lb.length+1)/2)(hL:h<min la.length lb.length→L (now+1) h h∧L (now+1) (max la.length lb.length-h) (min la.length lb.length-h)∧L (now+1) (h+1) (h+1)):
  Ct Pg F.eH [.pointer p,a.v,b.v,f] w (λk=>k=t∨Y k) [.one .slice,.one .bool] λ(x:Sl)(ok:Bool) w'=>
   (min la.length lb.length≤h→ok=false∧x=Sl.nil∧Ext aa w w'∧Tn w' t m now deep tab∧St s0 w')∧
   (h<min la.length lb.length→ok=true∧On w' w.w.heap.size x (vl W64 la*vl W64 lb)∧∃s1 m1 d1 s2 m2 d2 s3 m3 d3,Q s0 m (now+1) (max deep (now+1)) h h s1 m1 d1∧Q s1 m1 (now+1) d1 (max la.length lb.length-h) (min la.length lb.length-h) s2 m2 d2∧Q s2 m2 (now+1) d2 (h+1) (h+1) s3 m3 d3∧Tn w' t m3 now d3 tab∧St s3 w'):=by
 refine Ct.eH ?_;unfold Sh.eH;have hat':la≠[]→∀c,a.blk=some c→¬c=t:=λhl c hc h=>hat hl (by rw [hc,h])
 have hbt':lb≠[]→∀c,b.blk=some c→¬c=t:=λhl c hc h=>hbt hl (by rw [hc,h])
 obtain⟨Z,hZ⟩:∃Z,vl W64 la*vl W64 lb=Z:=⟨_,rfl⟩;obtain⟨N,hN⟩:∃N,max la.length lb.length=N:=⟨_,rfl⟩;obtain⟨M,hM⟩:∃M,min la.length lb.length=M:=⟨_,rfl⟩;have na:=ha.len;have nb:=hb.len;rw [hZ];rw [hN] at hh hL ⊢;rw [hM] at hL ⊢;refine j2 (λ(x y:Sl) w1=>∃l1 l2,Rd w1 x l1∧Rd w1 y l2∧l1.length=N∧l2.length=M∧(l1≠[]→∀c,x.blk=some c→¬c=t)∧(l2≠[]→∀c,y.blk=some c→¬c=t)∧vl W64 l1*vl W64 l2=Z∧w1=w.here) ?_ ?_
 ·refine ac (λh=>?_) (λh=>?_)
  ·exact⟨lb,la,hb.here,ha.here,om,om,hbt',hat',by rw [Nat.mul_comm];exact hZ,rfl⟩
  ·exact⟨la,lb,ha.here,hb.here,om,om,hat',hbt',hZ,rfl⟩
 clear ha hb hat hbt hat' hbt' na nb hZ a b;rintro a b _ ⟨l1,l2,ha,hb,n1,n2,hat,hbt,hZ,rfl⟩;have na:=ha.len;have nb:=hb.len;refine ab om om (jb (x:=N+1) (y:=2) om rfl om dcd ?_);rw [←hh];refine ac (λhle=>?_) (λhle=>?_)
 ·exact rt2 (c:=.slice) (d:=.bool) Sl.nil false (Ext.refl _ _) ⟨λ_=>⟨rfl,rfl,⟨rfl,rfl,rfl,Nat.le_refl _,rfl,λ_ h=>h,λ_ h=>.inl h,λ_ _ _ _=>rfl,λ_ _=>rfl⟩,hm.here.at,hI.mv (hI.mv hS)⟩,λh=>by omega⟩
 have hlt:h<M:=om;obtain⟨L1,L2,L3⟩:=hL hlt;have hMN:M≤N:=om;have T0:∀c,(c=t∨Y c)→c<w.w.heap.size:=λc hc=>hc.elim (λh=>h▸hm.lt) λh=>(hI.new hS h).1
 have TV:∀{w':TW} {s':σ} {m' n' d':Int},Tn w' t m' n' d' tab→St s' w'→∀c,(c=t∨Y c)→¬w'.V c:=λh1 h2 c hc=>hc.elim (λh=>h▸h1.V) λh=>(hI.new h2 h).2
 refine ch2 hc.here ?_;refine gW (kK hm.here h0 h1) (λc hc=>by subst hc;exact hm.V) ?_;intro _ w2 x2 hm2;have hm2:Tn w2 t m (now+1) (max deep (now+1)) tab:=hm2;have hS2:=hI.stay (hI.mv (k:=w.w.heap.size) hS) x2;have hc2:=hc.here.extX x2 λc hc=>(hne c hc).1
 have ha:=ha.extN x2 hat;have hb:=hb.extN x2 hbt;have z2:w.w.heap.size≤w2.w.heap.size:=x2.size;refine c1 (kara_piece (f:=0) (n:=h) ha dcd om) λp0 w3 e3 q0=>?_
 refine ag (y:=((N-h:Nat):Int)) (by rw [na,n1];exact (ar om om).trans om) ?_;refine c1 (kara_piece (f:=h) (n:=N-h) (ha.ext e3) om om) λp1 w4 e4 q1=>?_
 refine c1 (kara_piece (f:=0) (n:=h) ((hb.ext e3).ext e4) dcd om) λr0 w5 e5 u0=>?_
 refine ag (y:=((M-h:Nat):Int)) (by rw [nb,n2];exact (ar om om).trans om) ?_;refine c1 (kara_piece (f:=h) (n:=M-h) (((hb.ext e3).ext e4).ext e5) om om) λr1 w6 e6 u1=>?_
 have q0:=(((q0.less z2).ext e4).ext e5).ext e6;have q1:=(((q1.less (Nat.le_trans z2 e3.size)).ext e5).ext e6);have u0:=(u0.less (Nat.le_trans z2 (e3.trans e4).size)).ext e6;have u1:=u1.less (Nat.le_trans z2 ((e3.trans e4).trans e5).size);have e26:=((e3.trans e4).trans e5).trans e6;clear e3 e4 e5 e6;have A:=i4 W64 l1 h om;have B:=i4 W64 l2 h om;have P0:=rX W64 l1 0 h;have P1:=rX W64 l1 h (N-h);have R0:=rX W64 l2 0 h;have R1:=rX W64 l2 h (M-h);rw [List.drop_zero] at P0 R0;rw [List.take_of_length_le (by simp;omega)] at P1 R1;have s0':=df q0.sm;have s1':=df q1.sm;have t0':=df u0.sm;have t1':=df u1.sm;rw [j9] at s0' s1' t0' t1';rw [P0] at s0';rw [P1] at s1';rw [R0] at t0';rw [R1] at t1';have Nq0:=q0.rd.nt;have Nq1:=q1.rd.nt;have Nu0:=u0.rd.nt;have Nu1:=u1.rd.nt;rw [P0] at Nq0;rw [P1] at Nq1;rw [R0] at Nu0;rw [R1] at Nu1;have lq0:=j9 l1 0 h
 have lq1:=j9 l1 h (N-h);have lu0:=j9 l2 0 h;have lu1:=j9 l2 h (M-h);generalize pc l1 0 h=PA0 at*;generalize pc l1 h (N-h)=PA1 at*;generalize pc l2 0 h=PB0 at*;generalize pc l2 h (M-h)=PB1 at*;generalize vl W64 (l1.take h)=A0 at*;generalize vl W64 (l1.drop h)=A1 at*;generalize vl W64 (l2.take h)=B0 at*;generalize vl W64 (l2.drop h)=B1 at*;refine c1 (limb_Add Nq0 Nq1 om om) λsa w7 e7 ga=>?_
 have hsa:=zh (h:=h) s0' (by omega:sz A1≤h);have hsb:=zh (h:=h) t0' (by omega:sz B1≤h);refine ag (y:=((h+1:Nat):Int)) ((ar om om).trans om) ?_;refine c1 (kara_wide (n:=h+1) ga.rd om) λta w8 e8 va=>?_
 refine c1 (limb_Add ((Nu0.ext e7).ext e8) ((Nu1.ext e7).ext e8) om om) λsb w9 e9 gb=>?_
 refine ag (y:=((h+1:Nat):Int)) ((ar om om).trans om) ?_;refine c1 (kara_wide (n:=h+1) gb.rd om) λtb w10 e10 vb=>?_
 have zz6:=e26.size;have va:=((va.less (Nat.le_trans z2 (e26.trans e7).size)).ext e9).ext e10;have vb:=vb.less (Nat.le_trans z2 (((e26.trans e7).trans e8).trans e9).size);have e610:=((e7.trans e8).trans e9).trans e10;have q0:=q0.ext e610;have q1:=q1.ext e610;have u0:=u0.ext e610;have u1:=u1.ext e610;have e2a:=e26.trans e610;clear e7 e8 e9 e10 ga gb Nq0 Nq1 Nu0 Nu1 ha hb;have hm3:=hm2.ext e2a;have hS3:=hI.stay hS2 e2a.any;have hc3:=hc2.ext e2a;have va1:=rY hsa;have vb1:=rY hsb;have la1:=j9 (dg W64 (A0+A1)) 0 (h+1);have lb1:=j9 (dg W64 (B0+B1)) 0 (h+1);generalize pc (dg W64 (A0+A1)) 0 (h+1)=PA2 at*;generalize pc (dg W64 (B0+B1)) 0 (h+1)=PB2 at*
 have far:∀{w':TW} {o:Sl} {l:List Nat},Ow w' w.w.heap.size o l→∀c,o.blk=some c→c≠t∧¬Y c:=λh c hc=>by
  have:=h.blk_le c hc;exact⟨λh'=>by have:=T0 c (.inl h');omega,λh'=>by have:=T0 c (.inr h');omega⟩
 have z10:w.w.heap.size≤w10.w.heap.size:=Nat.le_trans z2 e2a.size;refine hI.call hm3 hS3 q0.rd u0.rd (far q0) (far u0) (by rw [lq0,lu0];exact L1) λx1 w11 σ1 m1 d1 x11 o1 hm4 hS4 Q1=>?_
 have z11:=x11.size;have q1:=q1.extB x11 T0;have u1:=u1.extB x11 T0;have va:=va.extB x11 T0;have vb:=vb.extB x11 T0;refine hI.call hm4 hS4 q1.rd u1.rd (far q1) (far u1) (by rw [lq1,lu1];exact L2) λx3 w12 σ2 m2 d2 x12 o2 hm5 hS5 Q2=>?_
 have z12:=x12.size;have va:=va.extB x12 T0;have vb:=vb.extB x12 T0;have o1:=(On.less o1 z10).extB x12 T0;have o2:=On.less o2 (Nat.le_trans z10 z11);refine hI.call hm5 hS5 va.rd vb.rd (far va) (far vb) (by rw [la1,lb1];exact L3) λx5 w13 σ3 m3 d3 x13 o3 hm6 hS6 Q3=>?_
 have z13:=x13.size;have o1:=Ow.extB o1 x13 T0;have o2:=Ow.extB o2 x13 T0;have o3:=On.less o3 (Nat.le_trans (Nat.le_trans z10 z11) z12);have xx:Ext (λk=>k=t∨Y k) w.here w13:=((((x2.weak λb hb=>.inl hb).trans e2a.any).trans x11).trans x12).trans x13;have hc6:=((hc3.extX x11 λc hc=>λh=>h.elim (hne c hc).1 (hne c hc).2).extX x12 λc hc=>λh=>h.elim (hne c hc).1 (hne c hc).2).extX x13 λc hc=>λh=>h.elim (hne c hc).1 (hne c hc).2
 rw [lq0,lu0] at Q1;rw [lq1,lu1] at Q2;rw [la1,lb1] at Q3;rw [P0,R0] at o1;rw [P1,R1] at o2;rw [va1,vb1] at o3;clear x11 x12 x13 hc3 q1 u1 va vb q0 u0;refine ch2 hc6 ?_;refine gW (kJ hm6 h0 h1) (λc hc=>by subst hc;exact hm6.V) ?_;intro _ w14 x14 hm7;have hm7:Tn w14 t m3 now d3 tab:=hm7;have hS7:=hI.stay hS6 x14;have TT:∀c,c=t→c<w.w.heap.size:=λc hc=>T0 c (.inl hc)
 have o1:=Ow.extB o1 x14 TT;have o2:=Ow.extB o2 x14 TT;have o3:=Ow.extB o3 x14 TT;have s1:=dt A0 B0;have s2:=dt A1 B1;have s3:=dt (A0+A1) (B0+B1);refine c1 (limb_Add (On.nt o1) (On.nt o2) om om) λx6 w15 e15 o4=>?_
 refine c2 (limb_Sub ((On.nt o3).ext e15) o4.nt om) ?_;rintro x7 ok w16 e16 ⟨-,o5⟩;have e1516:=e15.trans e16;have s4:=aq (Nat.sub_le ((A0+A1)*(B0+B1)) (A0*B0+A1*B1));refine qw (ss:=[x1,x7,x3]) (xs:=[A0*B0,(A0+A1)*(B0+B1)-(A0*B0+A1*B1),A1*B1]) 3 rfl rfl dcd ?_ λb2 w17 hrs e17=>?_
 ·intro i o hi;rcases i with _|_|_|i<;>simp at hi
  ·subst hi;exact (On.nt o1).ext e1516
  ·subst hi;exact o5.nt
  ·subst hi;exact (On.nt o2).ext e1516
 refine c1 (limb_Join (s:=⟨some ⟨b2,0,none⟩,3,3⟩) (k:=h) hrs smp ?_) λx8 w18 e18 o8=>?_
 ·intro i;rcases i with _|_|_|i<;>simp
  ·omega
  ·omega
  ·omega
  ·rw [sz0];omega
 have hmin:min ((h:Int).toNat) 16384=h:=om;rw [hmin] at o8
 have hv:vl (W64^h) [A0*B0,(A0+A1)*(B0+B1)-(A0*B0+A1*B1),A1*B1]=Z:=by
  rw [←hZ,A,B,←zQ];simp [vl]
 rw [hv] at o8;have ee:=(e1516.trans e17).trans e18;refine rt2 (c:=.slice) (d:=.bool) _ _ ((xx.trans (x14.weak λb hb=>.inl hb)).trans ee.any) ⟨λh=>by omega,λ_=>⟨rfl,(On.less o8 ?_).at,σ1,m1,d1,σ2,m2,d2,σ3,m3,d3,Q1,Q2,Q3,(hm7.ext ee).at,hI.mv (hI.stay hS7 ee.any)⟩⟩;have:=x14.size;have:=(e1516.trans e17).size;omega
end
theorem aar{f:FuncId}{first captured args:List Value}{w:TW}{rt:List VT}{K:Tel (fl rt) (TW → Prop)}(hf : (Pg.funcs[f]?).any (λfn => fn.body.isSome && !(fn.name == "runtime.NumGoroutine")) = true)(h : cl Pg f (first ++ args ++ captured) w rt K) : clv Pg (.func (.func f) first.toArray captured.toArray) args w rt K :=
 ⟨f,first.toArray,captured.toArray,rfl,hf,h⟩
end Go.Proofs.YtpbimnlggalnfaaGreatDoor.Zg
