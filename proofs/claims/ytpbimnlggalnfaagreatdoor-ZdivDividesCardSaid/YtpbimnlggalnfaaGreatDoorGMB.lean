/- A part of the proofs of this seat's laws. -/
import Derived.Test.YtpbimnlggalnfaaGreatDoorGKA
import Derived.Test.YtpbimnlggalnfaaGreatDoorGIA
import Derived.Test.YtpbimnlggalnfaaGreatDoorGMA
import Derived.Test.YtpbimnlggalnfaaGreatDoorGA
import Derived.Test.YtpbimnlggalnfaaGreatDoorGKC
import Derived.Test.YtpbimnlggalnfaaGreatDoorGB
import Derived.Test.YtpbimnlggalnfaaGreatDoorGK
import Derived.Test.YtpbimnlggalnfaaGreatDoorGQ
import Derived.Test.YtpbimnlggalnfaaGreatDoorGP
import Derived.Test.YtpbimnlggalnfaaGreatDoorGP1
import Derived.Test.YtpbimnlggalnfaaGreatDoorGP2
import Derived.Test.YtpbimnlggalnfaaGreatDoorGP3
import Derived.Test.YtpbimnlggalnfaaGreatDoorGP4
import Derived.Test.YtpbimnlggalnfaaGreatDoorGS
import Derived.Test.YtpbimnlggalnfaaGreatDoorGC
set_option linter.unusedVariables false
set_option linter.unusedSimpArgs false
set_option linter.unnecessarySimpa false
namespace Go.Proofs.YtpbimnlggalnfaaGreatDoor.Zg
open Go.RowKit
section
variable {B b k x:Nat} {v:Value} {vs:List Value} {s:Sl} {l:List Nat} {neg:Bool} {z:Int} {ty:TypeId} {c d:CK}
abbrev Xt1(t:Nat)(w w':TW):Prop:=Ext (λk=>k=t) w w'
def Tz(w:TW)(t:Nat):Prop:=∃m now deep tab,Tn w t m now deep tab
def Eg(w:TW)(p:Option Addr)(bs:List Nat)(t:Nat)(now:Int)(tab:List Int):Prop:=bT w p bs t∧(∀c∈bs,c≠t)∧mA tab∧Gl w∧∃m deep,Tn w t m now deep tab
section
variable {w w':TW} {p:Option Addr} {bs:List Nat} {t:Nat} {now:Int} {tab:List Int}
theorem Tz.V(h:Tz w t):¬w.V t:=by obtain⟨m,n,d,tb,h⟩:=h;exact h.V
theorem Tz.lt(h:Tz w t):t<w.w.heap.size:=by obtain⟨m,n,d,tb,h⟩:=h;exact h.lt
theorem Tn.tz{m deep:Int}(h:Tn w t m now deep tab):Tz w t:=⟨m,now,deep,tab,h⟩
theorem Gl.neT(h:Gl w)(hT:Tz w t):G.iw≠t:=by
 rintro rfl;obtain⟨m,n,d,tb,hT⟩:=hT;have h1:=h.2 0 dcd;rw [hT.cell] at h1;simp at h1
theorem Gl.extT(h:Gl w)(hT:Tz w t)(e:Xt1 t w w'):Gl w':=h.extX e (h.neT hT)
theorem Rw.neT(h:Rw w b (v::vs))(hT:Tz w t)(hv:∀x:Int,v≠.int .i64 x):b≠t:=by
 rintro rfl;obtain⟨m,n,d,tb,hT⟩:=hT;have h1:=h.cell 0;rw [hT.cell] at h1;exact hv m (by simpa using h1.symm)
theorem Rw.extT(h:Rw w b (v::vs))(hT:Tz w t)(hv:∀x:Int,v≠.int .i64 x)(e:Xt1 t w w'):Rw w' b (v::vs):=h.extX e (h.neT hT hv)
theorem Md.extT{mp:Option Addr}{q:Nat}(h:Md w mp q)(hT:Tz w t)(e:Xt1 t w w'):Md w' mp q:=by
 obtain⟨b,n,o,u,h1,h2,h3⟩:=h;exact⟨b,n,o,u,h1,h2.extT hT (by simp [U]) e,h3⟩
theorem Eg.tz(h:Eg w p bs t now tab):Tz w t:=by obtain⟨_,_,_,_,m,d,h⟩:=h;exact h.tz
theorem Eg.gl(h:Eg w p bs t now tab):Gl w:=h.2.2.2.1
theorem Eg.V(h:Eg w p bs t now tab):¬w.V t:=h.tz.V
theorem Eg.here(h:Eg w p bs t now tab):Eg w.here p bs t now tab:=by obtain⟨a,b,c,g,m,d,h⟩:=h;exact⟨a.here,b,c,g.here,m,d,h.here⟩
theorem Eg.at(h:Eg w p bs t now tab):Eg (w.at k) p bs t now tab:=by obtain⟨a,b,c,g,m,d,h⟩:=h;exact⟨a.at,b,c,g.at,m,d,h.at⟩
theorem Eg.drew(h:Eg w p bs t now tab):Eg w.drew p bs t now tab:=by
 obtain⟨a,b,c,g,m,d,h⟩:=h;exact⟨a.ext (Ext.refl _ _).drew,b,c,g.drew,m,d,h.drew⟩
theorem Eg.ext(h:Eg w p bs t now tab)(e:Ext aa w w'):Eg w' p bs t now tab:=by obtain⟨a,b,c,g,m,d,h⟩:=h;exact⟨a.ext e,b,c,g.ext e,m,d,h.ext e⟩
theorem Eg.set{now' m' deep':Int}(h:Eg w p bs t now tab)(e:Xt1 t w w')(h':Tn w' t m' now' deep' tab):Eg w' p bs t now' tab:=by obtain⟨a,b,c,g,m,d,h⟩:=h;exact⟨a.extX e b,b,c,g.extT h.tz e,_,_,h'⟩
theorem Eg.down(h:Eg w p (b::bs) t now tab){K:Option Addr→Prop}(hK:∀q,Eg w q bs t now tab→K q):nck p λa2=>ldc (.ptr) w a2 λ(v:Option Addr)=>K v:=by
 obtain⟨a,b1,c,g,m,d,h⟩:=h;obtain⟨rfl,_,q,h3,h4⟩:=a;exact ah ⟨q,h3,hK q ⟨h4,λc hc=>b1 c (List.mem_cons_of_mem _ hc),c,g,m,d,h⟩⟩
end
theorem Rdv.neT{w:TW}{t:Nat}(h:Rdv w k s vs)(hv:∀v∈vs,∀x:Int,v≠.int .i64 x)(hE:Tz w t)(hl:vs≠[]):s.blk≠some t:=by
 intro hb;obtain⟨m,now,d,tab,hT⟩:=hE;obtain⟨b,o,hp,_,hc⟩:=h.2.2.2 hl;have hbt:b=t:=by simpa [Sl.blk,hp] using hb
 subst hbt;cases vs with
 | nil=>exact hl rfl
 | cons v vs=>
  have h1:=hc 0 v rfl;rw [hT.cell] at h1;obtain⟨x,-,hx⟩:=Option.map_eq_some_iff.1 h1;exact hv v (List.mem_cons_self ..) x hx.symm
theorem Rdv.extT{w w':TW}{t:Nat}(h:Rdv w k s vs)(hv:∀v∈vs,∀x:Int,v≠.int .i64 x)(hE:Tz w t)(e:Xt1 t w w'):Rdv w' k s vs:=by
 by_cases hl:vs=[]
 ·subst hl;exact⟨h.1,h.2.1,h.2.2.1,λh=>absurd rfl h⟩
 ·exact h.ext e λb hb h'=>by subst h';exact h.neT hv hE hl hb
theorem acX(l:List Nat):∀v∈l.map U,∀x:Int,v≠.int .i64 x:=by
 intro v hv x;obtain⟨n,_,rfl⟩:=List.mem_map.1 hv;simp [U]
theorem abO(l:List Sl):∀v∈l.map Sl.v,∀x:Int,v≠.int .i64 x:=by
 intro v hv x;obtain⟨n,_,rfl⟩:=List.mem_map.1 hv;simp
theorem uD(l:List (Sl × Bool)):∀v∈l.flatMap iv,∀x:Int,v≠.int .i64 x:=by
 intro v hv x;obtain⟨n,_,hn⟩:=List.mem_flatMap.1 hv;simp [iv] at hn;rcases hn with rfl|rfl<;>simp
theorem Rd.extT{w w':TW}{t:Nat}(h:Rd w s l)(hE:Tz w t)(e:Xt1 t w w'):Rd w' s l:=⟨h.rv.extT (acX l) hE e,h.sm⟩
theorem Nt.extT{w w':TW}{t:Nat}(h:Nt w s x)(hE:Tz w t)(e:Xt1 t w w'):Nt w' s x:=h.imp λ_ h=>⟨h.1.extT hE e,h.2⟩
theorem Rs.extT{w w':TW}{t:Nat}{xs:List Nat}(h:Rs w s xs)(hE:Tz w t)(e:Xt1 t w w'):Rs w' s xs:=h.imp λss h=>⟨h.1.extT (abO ss) hE e,h.2.1,λi t ht=>(h.2.2 i t ht).extT hE e⟩
theorem Iz.extT{w w':TW}{t:Nat}(h:Iz w s neg z)(hE:Tz w t)(e:Xt1 t w w'):Iz w' s neg z:=h.imp λ_ h=>⟨h.1.extT hE e,h.2⟩
theorem Ri.extT{w w':TW}{t:Nat}{zs:List Int}(h:Ri w s zs)(hE:Tz w t)(e:Xt1 t w w'):Ri w' s zs:=h.imp λts h=>⟨h.1.extT (uD ts) hE e,h.2.1,λi hi=>(h.2.2 i hi).extT hE e⟩
theorem Own.neT{w:TW}{t:Nat}{vs:List Value}(h:Own w B ty k s vs)(hE:Tz w t)(hty:ty≠T.dj):s.blk≠some t:=by
 intro hb;obtain⟨m,now,d,tab,hT⟩:=hE;rcases h.form with ⟨rfl,_⟩|⟨b,cur,hp,_,hg,_⟩
 ·simp [Sl.blk] at hb
 ·have hbt:b=t:=by simpa [Sl.blk,hp] using hb
  subst hbt;rw [hT.at_] at hg;simp only [Option.some.injEq,Obj.cells.injEq] at hg;exact hty hg.2.1.symm
theorem Own.extT{w w':TW}{t:Nat}(h:Own w B ty k s vs)(hE:Tz w t)(hty:ty≠T.dj)(e:Xt1 t w w'):Own w' B ty k s vs:=
 h.ext e λb hb h'=>by subst h';exact h.neT hE hty hb
theorem yP:T.an≠T.dj:=dcd
theorem Ow.neT{w:TW}{t:Nat}{l:List Nat}(h:Ow w B s l)(hE:Tz w t):s.blk≠some t:=h.ow.neT hE yP
theorem Ow.extT{w w':TW}{t:Nat}(h:Ow w B s l)(hE:Tz w t)(e:Xt1 t w w'):Ow w' B s l:=⟨h.ow.extT hE yP e,h.sm⟩
theorem On.extT{w w':TW}{t:Nat}(h:On w B s x)(hE:Tz w t)(e:Xt1 t w w'):On w' B s x:=Ow.extT h hE e
theorem Io.extT{w w':TW}{t:Nat}(h:Io w B s neg z)(hE:Tz w t)(e:Xt1 t w w'):Io w' B s neg z:=⟨On.extT h.1 hE e,h.2⟩
section
variable {P:Program} {f:FuncId} {args:List Value} {w:TW} {t:Nat}
theorem t1{Φ K:CV c→TW→Prop}(hE:Tz w t)(h:Ct P f args w (λk=>k=t) [.one c] Φ)(hK:∀x w',Xt1 t w w'→Φ x w'→K x w'):cl P f args w [.one c] K:=gW h (λc hc=>by subst hc;exact hE.V) hK
theorem t2{Φ K:CV c→CV d→TW→Prop}(hE:Tz w t)(h:Ct P f args w (λk=>k=t) [.one c,.one d] Φ)(hK:∀x y w',Xt1 t w w'→Φ x y w'→K x y w'):cl P f args w [.one c,.one d] K:=gW h (λc hc=>by subst hc;exact hE.V) hK
theorem t3{e:CK}{Φ K:CV c→CV d→CV e→TW→Prop}(hE:Tz w t)(h:Ct P f args w (λk=>k=t) [.one c,.one d,.one e] Φ)(hK:∀x y z w',Xt1 t w w'→Φ x y z w'→K x y z w'):cl P f args w [.one c,.one d,.one e] K:=gW h (λc hc=>by subst hc;exact hE.V) hK
end
end
section
variable {w:TW}
theorem acR{y:Nat}{Y:Int}{K:Int→Prop}(hY:Y=y)(hy:y<W64)(h:K ((18446744073709551615-y:Nat):Int)):bnd (bg .xor .u64 IntKind.u64.max Y) K:=by
 subst hY;unfold bnd
 have e:bg .xor .u64 IntKind.u64.max (y:Int)=((18446744073709551615-y:Nat):Int):=by
  rw [show IntKind.u64.max=((W64-1:Nat):Int) by rfl]
  have h1:(BitVec.ofInt 64 ((W64-1:Nat):Int) ^^^ BitVec.ofInt 64 (y:Int)).toNat=W64-1-y:=by
   rw [BitVec.toNat_xor,oQ dcd,oQ hy]
   have:(2^64-1) ^^^ y=2^64-1-y:=by
    refine Nat.eq_of_testBit_eq λi=>?_
    rw [Nat.testBit_xor,Nat.testBit_two_pow_sub_one,show 2^64-1-y=2^64-(y+1) by omega,Nat.testBit_two_pow_sub_succ hy];by_cases hi:i<64
    ·simp [hi]
    ·have:y.testBit i=false:=Nat.testBit_lt_two_pow (Nat.lt_of_lt_of_le (show y<2^64 from hy) (Nat.pow_le_pow_right (show 2>0 by decide) (show 64≤i by omega)));simp [hi,this]
   exact this
  show IntKind.u64.wrap (((BitVec.ofInt 64 ((W64-1:Nat):Int) ^^^ BitVec.ofInt 64 (y:Int)).toNat:Nat):Int)=_;rw [h1];exact uy (x:=W64-1-y) om
 rw [e];exact h
theorem word_Inverse{d:Nat}(hd:d<W64)(h:9223372036854775808≤d):Ct Pg F.im [.int .u64 d] w aa [.one (.int .u64),.one .bool] λ(v:Int)(ok:Bool) _=>ok=true∧v=(((18446744073709551615-d)*W64+18446744073709551615)/d:Nat):=by
 refine Ct.im ?_;unfold Sh.im;generalize hL:(9223372036854775808:Int)=L;refine ac (λh0=>om) (λ_=>acR rfl hd ?_);rw [show (18446744073709551615:Int)=((18446744073709551615:Nat):Int) by simp];refine c2 (bits_Div64 (hi:=18446744073709551615-d) (lo:=18446744073709551615) dcd hd om) ?_;rintro q r w1 e1 ⟨rfl,rfl⟩;exact rt2 (c:=.int .u64) (d:=.bool) _ _ e1 ⟨rfl,rfl⟩
theorem word_Inverse2{d1 d0:Nat}(hd1:d1<W64)(h:9223372036854775808≤d1)(hd0:d0<W64):Ct Pg F.gm [.int .u64 d1,.int .u64 d0] w aa [.one (.int .u64),.one .bool] λ(v:Int)(ok:Bool) _=>ok=true∧∃u:Nat,v=u∧Rcp (d1*W64+d0) u:=by
 refine Ct.gm ?_;unfold Sh.gm;refine c2 (word_Inverse hd1 h) ?_;rintro v ok w1 e1 ⟨rfl,rfl⟩;refine ap rfl ?_;obtain⟨v,hv⟩:∃v,((18446744073709551615-d1)*W64+18446744073709551615)/d1=v:=⟨_,rfl⟩;rw [hv];have hdm:=Nat.div_add_mod ((18446744073709551615-d1)*W64+18446744073709551615) d1;have hml:=Nat.mod_lt ((18446744073709551615-d1)*W64+18446744073709551615) (show 0<d1 by omega);rw [hv] at hdm;obtain⟨e,he⟩:∃e,((18446744073709551615-d1)*W64+18446744073709551615)%d1=e:=⟨_,rfl⟩;rw [he] at hdm hml;obtain⟨X,hX⟩:∃X,X=d1*v:=⟨_,rfl⟩;rw [←hX] at hdm;rw [w64] at hd1 hd0 hdm
 have hvB:v<18446744073709551616:=by
  rw [←hv];refine (Nat.div_lt_iff_lt_mul om).2 ?_;rw [w64];omega
 obtain⟨r1,r2⟩:=aet (d1:=d1) (d0:=d0) om hd1 hd0 hX om hml;refine gy (y:=X) (by rw [hX];simp) (gy (y:=X%W64+d0) smp ?_);rw [show (X%W64+d0)%W64=(X+d0)%18446744073709551616 by rw [w64];omega];refine j2 (λ(v' p:Int) w'=>∃v1 p1:Nat,v'=v1∧p=p1∧Rc1 d1 d0 v1 p1∧Ext aa w1 w') ?_ ?_
 ·refine ac (λhc=>?_) (λhc=>?_)
  ·have hed:e<d0:=by
    rcases Nat.lt_or_ge e d0 with h|h
    ·exact h
    ·have:=r1 h;omega
   obtain⟨hp,hv1⟩:=r2 hed;rw [hp] at hc ⊢;obtain⟨k1,k2⟩:=xc hX hv1;refine ai (y:=v-1) om (by rw [w64];omega) ?_;refine j2 (λ(v' p:Int) w'=>∃v1 p1:Nat,v'=v1∧p=(p1+d1:Int)-18446744073709551616∧Rc1 d1 d0 v1 p1∧w'=w1) ?_ ?_
   ·refine ac (λhc2=>?_) (λhc2=>?_)
    ·have hv2:1≤v-1:=by
      rcases Nat.eq_zero_or_pos (v-1) with h0|h0
      ·rw [h0,Nat.mul_zero] at k1;omega
      ·exact h0
     obtain⟨k3,k4⟩:=xc k1 hv2;refine ai (y:=v-2) om (by rw [w64];omega) (ai (y:=d0-e-1-d1) om (by rw [w64];omega) ?_);refine⟨v-2,d0-e-1+18446744073709551616-2*d1,rfl,om,⟨om,om,om,?_⟩,rfl⟩;have:v-1-1=v-2:=om;rw [this] at k3;rw [←k3];omega
    ·refine⟨v-1,d0-e-1+18446744073709551616-d1,rfl,om,⟨om,om,om,?_⟩,rfl⟩;rw [←k1];omega
   rintro v' p w2 ⟨v1,p1,rfl,rfl,hR,rfl⟩;have hR3:=hR.2.1;unfold bnd
   rw [show wu ((p1+d1:Int)-18446744073709551616-d1)=p1 by
    rw [show (p1+d1:Int)-18446744073709551616-d1=(p1:Int)-18446744073709551616 by omega,wu,IntKind.wrap_u64];omega]
   exact⟨v1,p1,rfl,rfl,hR,Ext.refl _ _⟩
  ·have hed:d0≤e:=by
    rcases Nat.lt_or_ge e d0 with h|h
    ·have:=(r2 h).1;omega
    ·exact h
   rw [r1 hed];exact⟨v,_,rfl,rfl,⟨hvB,om,om,by rw [←hX];omega⟩,Ext.refl _ _⟩
 rintro v' p w2 ⟨v1,p1,rfl,rfl,hR,e2⟩;have hR1:=hR.1;refine c2 (bits_Mul64 (by exact hR.1) hd0) ?_;rintro hi lo w3 e3 ⟨rfl,rfl⟩;obtain⟨f1,f2⟩:=hR.fin om hd1 hd0 rfl rfl rfl;have hlo:=Nat.mod_lt (v1*d0) (show 0<W64 by decide);have hR2:=hR.2.1;refine gy (y:=p1+v1*d0/W64) smp ?_;generalize v1*d0/W64=t1 at*;generalize v1*d0%W64=t0 at*;generalize (p1+t1)%W64=p2 at*;refine j1 (λ(v':Int) w'=>∃u:Nat,v'=u∧Rcp (d1*W64+d0) u∧Ext aa w3 w') ?_ ?_
 ·refine ac (λhc=>?_) (λhc=>?_)
  ·obtain⟨g1,g2,g3,g4⟩:=f1 om;refine ai (y:=v1-1) om (by rw [w64];omega) ?_;refine j1 (λ(b:Bool) w'=>b=decide (d1<p2∨p2=d1∧d0≤t0)∧w'=w3) ?_ ?_
   ·refine ac (λh1=>⟨(decide_eq_true (.inl om)).symm,rfl⟩) (λh1=>?_);refine aG (λh2=>⟨?_,rfl⟩) (λh2=>⟨?_,rfl⟩)
    ·have h2:p2=d1:=by
      have:(p2:Int)=d1:=by simpa using h2
      omega
     rw [Bool.eq_iff_iff,decide_eq_true_iff,decide_eq_true_iff];omega
    ·have h2:p2≠d1:=λh=>by simp [h] at h2
     exact (decide_eq_false om).symm
   rintro b w4 ⟨rfl,rfl⟩;refine j1 (λ(v':Int) w'=>∃u:Nat,v'=u∧Rcp (d1*W64+d0) u∧Ext aa w4 w') ?_ λ_ _ h=>h
   refine ac (λh1=>?_) (λh1=>?_)
   ·obtain⟨g5,g6⟩:=g3 h1;exact ai (y:=v1-2) om (by rw [w64];omega) ⟨_,rfl,g6,Ext.refl _ _⟩
   ·exact⟨_,rfl,g4 h1,Ext.refl _ _⟩
  ·exact⟨v1,rfl,f2 om,Ext.refl _ _⟩
 rintro v' w4 ⟨u,rfl,hu,e4⟩;exact rt2 (c:=.int .u64) (d:=.bool) _ _ (((e1.trans e2).trans e3).trans e4) ⟨rfl,u,rfl,hu⟩
theorem word_below{a1 a0 b1 b0:Nat}(ha:a0<W64)(hb:b0<W64):Ct Pg F.iI [.int .u64 a1,.int .u64 a0,.int .u64 b1,.int .u64 b0] w aa [.one .bool] λ(r:Bool) _=>r=decide (a1*W64+a0<b1*W64+b0):=by
 refine Ct.iI ?_;unfold Sh.iI;rw [w64] at*;refine j1 (λ(b:Bool) w'=>b=decide (a1*18446744073709551616+a0<b1*18446744073709551616+b0)∧w'=w.here) ?_ ?_
 ·refine ac (λh1=>⟨(decide_eq_true om).symm,rfl⟩) (λh1=>?_);refine aG (λh2=>⟨?_,rfl⟩) (λh2=>⟨?_,rfl⟩)
  ·have h2:a1=b1:=by
    have:(a1:Int)=b1:=by simpa using h2
    omega
   rw [Bool.eq_iff_iff,decide_eq_true_iff,decide_eq_true_iff];omega
  ·have h2:a1≠b1:=λh=>by simp [h] at h2
   exact (decide_eq_false om).symm
 rintro b w1 ⟨rfl,rfl⟩;exact rt1 (c:=.bool) _ (Ext.refl _ _) rfl
end
section
variable {D a1 a2 v:Nat} {a b:Int}
theorem abt(h:a2*18446744073709551616+a1<D)(hR:(18446744073709551616+v)*D<18446744073709551616*18446744073709551616*18446744073709551616):v*a2+a2*18446744073709551616+a1<18446744073709551616*18446744073709551616:=by
 have h1:(18446744073709551616+v)*(a2*18446744073709551616+a1)≤(18446744073709551616+v)*D:=Nat.mul_le_mul_left _ (Nat.le_of_lt h);have h2:(18446744073709551616+v)*(a2*18446744073709551616+a1)=(v*a2+a2*18446744073709551616+a1)*18446744073709551616+v*a1:=by grind
 rw [h2] at h1;generalize (18446744073709551616+v)*D=E at*;generalize v*a2=p at*;omega
theorem acG{W P1 P0 D d1 d0 a2 a1 a0 n k1 n1 k2 t1 t0 s2 c2 s3 c3 s4 c4 s5 c5:Int}(f1:n+W*k1=P1)(f2:n1+n=a1+W*k2)(m3:W*t1+t0=P0)(f3:s2+t0+0=a0+W*c2)(f4:s3+t1+c2=n1+W*c3)(f5:s4+d0+0=s2+W*c4)(f6:s5+d1+c4=s3+W*c5)(hD:D=d1*W+d0):
  s5*W+s4=a2*(W*W)+a1*W+a0-(W*P1+P0+D)+W*W*(k2+k1+c3+c5-a2):=by
 have e1:s5=s3+W*c5-d1-c4:=by grind
 have e2:s4=s2+W*c4-d0:=by grind
 have e3:s3=n1+W*c3-t1-c2:=by grind
 have e4:s2=a0+W*c2-t0:=by grind
 have e5:n1=a1+W*k2-n:=by grind
 have e6:n=P1-W*k1:=by grind
 subst e1 e2 e3 e4 e5 e6 m3 hD;grind
theorem adN{c:Int}(h:a+c=b+c):a=b:=om
theorem ot{x y:Nat}(h:x=y)(ha:a=x)(hb:b=y):a=b:=by rw [ha,hb,h]
theorem adC{v R D q0 Z:Int}(h0:0≤v)(h1:v<340282366920938463463374607431768211456)(hv:v=R+340282366920938463463374607431768211456*Z)(hD2:D<340282366920938463463374607431768211456)(hq0:0≤q0)(hq0':q0<18446744073709551616)(g1:-D≤R)(g2:q0*18446744073709551616-340282366920938463463374607431768211456≤R)(g3:R<340282366920938463463374607431768211456-D∨R<q0*18446744073709551616)(hD0:0<D):(R<0→v=R+340282366920938463463374607431768211456∧q0*18446744073709551616≤v)∧(0≤R→v=R):=by
 constructor
 ·intro h;have:Z=1:=om;subst this;omega
 ·intro h;have:Z=0:=om;subst this;omega
theorem ac3{E C:Nat}(h1:E<C)(h2:C≤E+D):∃K,E+K=C∧1≤K∧K≤D:=⟨C-E,om,om,om⟩
theorem adD(h1:(18446744073709551616+v)*D<18446744073709551616*18446744073709551616*18446744073709551616)(h2:18446744073709551616*18446744073709551616*18446744073709551616≤(18446744073709551616+v)*D+D):
  ∃K:Nat,((18446744073709551616:Int)+v)*D+K=18446744073709551616*18446744073709551616*18446744073709551616∧1≤K∧K≤D:=by
 obtain⟨K,hK,h3,h4⟩:=ac3 h1 h2;refine⟨K,?_,h3,h4⟩;have:=congrArg (Nat.cast (R:=Int)) hK;simp only [Int.natCast_add,Int.natCast_mul] at this;exact this
theorem word_Div3{w:TW}{a0 d1 d0:Nat}(h2:a2<W64)(h1:a1<W64)(h0:a0<W64)(hd1:d1<W64)(hd:9223372036854775808≤d1)(hd0:d0<W64)(hv:Rcp (d1*18446744073709551616+d0) v):
  Ct Pg F.jG [.int .u64 a2,.int .u64 a1,.int .u64 a0,.int .u64 d1,.int .u64 d0,.int .u64 v] w aa [.one (.int .u64),.one (.int .u64),.one (.int .u64),.one .bool] λ(q _ _:Int)(ok:Bool) _=>
   ok=decide (a2*18446744073709551616+a1<d1*18446744073709551616+d0)∧(ok=true→q=(((a2*18446744073709551616+a1)*18446744073709551616+a0)/(d1*18446744073709551616+d0):Nat)):=by
 refine Ct.jG ?_;unfold Sh.jG;generalize hL:(9223372036854775808:Int)=L;obtain⟨bb,hbb⟩:∃bb:Bool,bb=decide (a2*18446744073709551616+a1<d1*18446744073709551616+d0):=⟨_,rfl⟩;refine j1 (λ(b:Bool) w'=>b=!bb∧Ext aa w.here w') ?_ ?_
 ·refine ac (λh=>om) (λ_=>?_);refine c1 (word_below h1 hd0) ?_;rintro r w1 e1 h;exact⟨by rw [h,hbb],e1⟩
 rintro b w1 ⟨rfl,e1⟩;rw [w64] at h2 h1 h0 hd1 hd0;rw [←hbb];cases bb with
 | false=>exact rt4 (c:=.int .u64) (d:=.int .u64) (e:=.int .u64) (f:=.bool) _ _ _ _ e1 ⟨rfl,λh=>by cases h⟩
 | true=>
 have hlt:a2*18446744073709551616+a1<d1*18446744073709551616+d0:=of_decide_eq_true hbb.symm;clear hbb;refine ap rfl ?_;have hvB:=hv.1;have htop:=abt hlt hv.2.1;have hKex:=adD hv.2.1 hv.2.2;clear hv;refine c2 (bits_Mul64 hvB h2) ?_;rintro hi lo w2 e2 ⟨rfl,rfl⟩;have m1:=Nat.div_add_mod (v*a2) W64;have m2:=Nat.mod_lt (v*a2) (show 0<W64 by decide);obtain⟨V,hV⟩:∃V,v*a2=V:=⟨_,rfl⟩;rw [hV] at m1 m2 htop ⊢;generalize V/W64=r at*;generalize V%W64=r1 at*;rw [w64] at m1 m2;refine jf (b:=a1) (d:=0) rfl rfl rfl om m2 h1 λq0 c hq0 hc e3=>?_
 refine jf (a:=r) (b:=a2) rfl rfl rfl hc om h2 λq1 c' hq1 hc' e4=>?_
 have hc0:c'=0:=om;subst hc0;have o4:(q1:Int)*18446744073709551616+q0=18446744073709551616*a2+V+a1:=by clear hlt hKex htop;omega
 obtain⟨P1,hP1⟩:∃P1,q1*d1=P1:=⟨_,rfl⟩;obtain⟨P0,hP0⟩:∃P0,d0*q1=P0:=⟨_,rfl⟩;refine uz (a:=P1) (by rw [←hP1];simp) λn k1 hn f1=>?_
 refine abL (a:=a1) (b:=n) rfl rfl h1 hn λn1 k2 hn1 f2=>?_
 refine c2 (bits_Mul64 hd0 hq1) ?_;rintro hi lo w3 e5 ⟨rfl,rfl⟩;have m3:=Nat.div_add_mod (d0*q1) W64;have m4:=Nat.mod_lt (d0*q1) (show 0<W64 by decide);have m5:d0*q1/W64<W64:=(Nat.div_lt_iff_lt_mul dcd).2 (Nat.mul_lt_mul'' hd0 hq1);rw [hP0] at m3 m4 m5 ⊢;generalize P0/W64=t1 at*;generalize P0%W64=t0 at*;rw [w64] at m3 m4 m5;refine mE (a:=a0) (b:=t0) (d:=0) rfl rfl rfl om h0 m4 λs2 c2 hs2 hc2 f3=>?_
 refine mE (a:=n1) (b:=t1) rfl rfl rfl hc2 hn1 m5 λs3 c3 hs3 hc3 f4=>?_
 refine mE (a:=s2) (b:=d0) (d:=0) rfl rfl rfl om hs2 hd0 λs4 c4 hs4 hc4 f5=>?_
 refine mE (a:=s3) (b:=d1) rfl rfl rfl hc4 hs3 hd1 λs5 c5 hs5 hc5 f6=>?_
 obtain⟨D,hD⟩:∃D,D=d1*18446744073709551616+d0:=⟨_,rfl⟩;obtain⟨U,hU⟩:∃U,U=(a2*18446744073709551616+a1)*18446744073709551616+a0:=⟨_,rfl⟩;rw [←hD] at hKex hlt ⊢;rw [←hU];have o1:(18446744073709551616:Int)*18446744073709551616≤2*D:=om;have o2:(D:Int)<18446744073709551616*18446744073709551616:=om;have o3:(a2:Int)*18446744073709551616+a1<D:=om;have o5:(a1:Int)<18446744073709551616:=om;have o6:(a0:Int)<18446744073709551616:=om;have o7:(q0:Int)<18446744073709551616:=om;obtain⟨K,hK,hK1,hK2⟩:=hKex
 have core:=aan (D:=D) (v:=v) (K:=K) (u2:=a2) (u1:=a1) (u0:=a0) (q1:=q1) (q0:=q0) o1 o2 (Int.natCast_nonneg _) hK (Int.ofNat_le.2 hK1) (Int.ofNat_le.2 hK2) (Int.natCast_nonneg _) (Int.natCast_nonneg _) o5 (Int.natCast_nonneg _) o6 o3
  (by
   have:(v:Int)*a2=V:=by rw [←hV];simp
   rw [o4,Int.add_mul,this]) (Int.natCast_nonneg _) o7
 clear hK hK1 hK2 K
 have hQD:((q1:Int)+1)*D=18446744073709551616*P1+P0+D:=by
  have a:(P1:Int)=q1*d1:=by rw [←hP1];simp
  have b:(P0:Int)=d0*q1:=by rw [←hP0];simp
  have c:(D:Int)=d1*18446744073709551616+d0:=by rw [hD];simp
  rw [a,b,c];grind
 rw [hQD] at core;obtain⟨R,hR⟩:∃R:Int,R=(a2:Int)*(18446744073709551616*18446744073709551616)+a1*18446744073709551616+a0-(18446744073709551616*P1+P0+D):=⟨_,rfl⟩;rw [←hR] at core;obtain⟨g1,g2,g3⟩:=core
 obtain⟨Z,hZ⟩:∃Z:Int,(s5:Int)*18446744073709551616+s4=R+340282366920938463463374607431768211456*Z:=by
  refine⟨(k2:Int)+k1+c3+c5-a2,?_⟩;rw [hR];exact acG (W:=18446744073709551616) (P1:=P1) (P0:=P0) (D:=D) (d1:=d1) (d0:=d0) (a2:=a2) (a1:=a1) (a0:=a0) (n:=n) (k1:=k1) (n1:=n1) (k2:=k2) (t1:=t1) (t0:=t0) (s2:=s2) (c2:=c2) (s3:=s3) (c3:=c3) (s4:=s4) (c4:=c4) (s5:=s5) (c5:=c5) (ot f1 smp smp) (ot f2 smp smp) (ot m3 smp smp) (ot f3 smp smp) (ot f4 smp smp) (ot f5 smp smp) (ot f6 smp smp) (ot hD smp smp)
 clear f1 f2 f3 f4 f5 f6 m1 m2 m3 m4 m5 hP1 hP0 hV htop e3 e4 hvB hs2 hs3 hc2 hc3 hc4 hc5 hn hn1 o1 o2 o3 o4 o5 o6 o7 hc;have hUlt:U<D*18446744073709551616:=by clear hZ hR g1 g2 g3 hQD;omega
 have hUD:U=q1*D+D+R:=by
  have:(q1:Int)*D=18446744073709551616*P1+P0:=by have:=hQD;rw [Int.add_mul,Int.one_mul] at this;exact adN this
  rw [this,hU,hR];clear hQD hR hUlt hZ g1 g2 g3 this hU;simp only [Int.natCast_add,Int.natCast_mul];rw [Int.add_mul];show (a2:Int)*18446744073709551616*18446744073709551616+a1*18446744073709551616+a0=_;omega
 have hqd:U/D<18446744073709551616:=(Nat.div_lt_iff_lt_mul om).2 (by rw [Nat.mul_comm];exact hUlt)
 have fin:∀(x r:Nat),U=x*D+r→r<D→U/D=x:=λx r h1 h2=>by
  rw [h1,Nat.mul_comm,Nat.mul_add_div om,Nat.div_eq_of_lt h2,Nat.add_zero]
 have hq:R<0→U/D=q1:=λh=>by
  refine fin q1 (R+D).toNat ?_ om;have:(U:Int)=((q1*D+(R+D).toNat:Nat):Int):=by rw [hUD];simp;omega
  omega
 have hq':0≤R→R<D→U/D=q1+1:=λh h'=>by
  refine fin (q1+1) R.toNat ?_ om;have:(U:Int)=(((q1+1)*D+R.toNat:Nat):Int):=by rw [hUD];simp;rw [Int.add_mul];omega
  omega
 have hq'':D≤R→R<2*D→U/D=q1+2:=λh h'=>by
  refine fin (q1+2) (R-D).toNat ?_ om;have:(U:Int)=(((q1+2)*D+(R-D).toNat:Nat):Int):=by rw [hUD];simp;rw [Int.add_mul];omega
  omega
 have hD0:0<D:=om;have hDhi:340282366920938463463374607431768211456≤2*(D:Int):=om;have hDlo:(D:Int)<340282366920938463463374607431768211456:=om;obtain⟨v5,hv5⟩:∃v5:Int,v5=(s5:Int)*18446744073709551616+s4:=⟨_,rfl⟩;rw [←hv5] at hZ;obtain⟨z1,z2⟩:=adC (v:=v5) om om hZ hDlo om om g1 g2 g3 om;clear hUD hQD fin hUlt hR hZ hU hlt h0 h1 h2;refine uz (a:=q1+1) om λn2 k6 hn2 f7=>?_
 refine j3 (λ(r1 r0 q:Int) w'=>∃x1 x0 y:Nat,r1=x1∧r0=x0∧q=y∧x0<18446744073709551616∧x1<18446744073709551616∧y<18446744073709551616∧(x1*18446744073709551616+x0<D→y=U/D)∧(D≤x1*18446744073709551616+x0→∃e,y+1=U/D+18446744073709551616*e)∧Ext aa w3 w') ?_ ?_
 ·refine ac (λhc=>?_) (λhc=>?_)
  ·refine abL (a:=n2) (b:=1) rfl rfl hn2 om λn3 k7 hn3 f8=>?_
   refine jf (a:=s4) (b:=d0) (d:=0) rfl rfl rfl om hs4 hd0 λs6 c6 hs6 hc6 f9=>?_
   refine jf (a:=s5) (b:=d1) rfl rfl rfl hc6 hs5 hd1 λs7 c7 hs7 hc7 f10=>?_
   have hn3q:n3=q1:=om;obtain⟨v7,hv7⟩:∃v7:Int,v7=(s7:Int)*18446744073709551616+s6:=⟨_,rfl⟩;have hv75:v7=v5+D-340282366920938463463374607431768211456*c7:=by rw [hv7,hv5,hD];simp;omega
   have hc5:q0*18446744073709551616≤v5:=by rw [hv5];omega
   have hb7:0≤v7∧v7<340282366920938463463374607431768211456:=by rw [hv7];omega
   clear f7 f8 f9 f10 hv5 hc;refine⟨s7,s6,n3,rfl,rfl,rfl,hs6,hs7,hn3,λh=>?_,λh=>?_,Ext.refl _ _⟩
   ·rcases Int.lt_or_le R 0 with hR0|hR0
    ·rw [hq hR0,hn3q]
    ·exfalso;have:=z2 hR0;have h:v7<D:=by rw [hv7];omega
     clear hv7 hq hq' hq'' z1 z2;omega
   ·rcases Int.lt_or_le R 0 with hR0|hR0
    ·exfalso;have:=(z1 hR0).1;have h:(D:Int)≤v7:=by rw [hv7];omega
     clear hv7 hq hq' hq'' z1 z2;omega
    ·have:=z2 hR0;exact⟨0,by rw [hq' hR0 (by clear hv7 hq hq' hq'' z1 z2;omega)];omega⟩
  ·have hc5:v5<q0*18446744073709551616:=by rw [hv5];omega
   have hR0:0≤R:=by
    rcases Int.lt_or_le R 0 with h|h
    ·have:=(z1 h).2;omega
    ·exact h
   have hvR:=z2 hR0;refine⟨s5,s4,n2,rfl,rfl,rfl,hs4,hs5,hn2,λh=>?_,λh=>?_,Ext.refl _ _⟩
   ·have:=hq' hR0 (by rw [←hvR,hv5];omega);omega
   ·have:=hq'' (by rw [←hvR,hv5];omega) (by clear hq hq' hq'' z1 z2 hv5;omega);have:k6=0:=om;exact⟨0,om⟩
 rintro r1 r0 q w4 ⟨x1,x0,y,rfl,rfl,rfl,hx0,hx1,hy,hA,hB,e6⟩;refine c1 (word_below hx0 hd0) ?_;rintro b w5 e7 rfl;refine j3 (λ(_ _ q:Int) w'=>q=(U/D:Nat)∧Ext aa w5 w') ?_ ?_
 ·rw [w64,←hD];obtain⟨b2,hb2⟩:∃b2:Bool,b2=decide (x1*18446744073709551616+x0<D):=⟨_,rfl⟩;rw [←hb2];cases b2 with
  | true=>
   have hlt2:=of_decide_eq_true hb2.symm;exact ap rfl ⟨by rw [hA hlt2],Ext.refl _ _⟩
  | false=>
   have hlt2:=of_decide_eq_false hb2.symm;refine aQ rfl ?_;obtain⟨e,he⟩:=hB om;refine uz (a:=y+1) om λn4 k8 hn4 f11=>?_
   refine mE (a:=x0) (b:=d0) (d:=0) rfl rfl rfl om hx0 hd0 λs8 c8 hs8 hc8 _=>?_
   refine mE (a:=x1) (b:=d1) rfl rfl rfl hc8 hx1 hd1 λs9 c9 hs9 hc9 _=>?_
   exact⟨om,Ext.refl _ _⟩
 rintro _ _ q w6 ⟨rfl,e8⟩;exact rt4 (c:=.int .u64) (d:=.int .u64) (e:=.int .u64) (f:=.bool) _ _ _ _ (((((e1.trans e2).trans e5).trans e6).trans e7).trans e8) ⟨rfl,λ_=>rfl⟩
end
section
variable {H i:Nat} {X:Nat→Prop} {K:Addr→Option Addr→Prop}
def pws(p x H:Nat):List Nat:=(List.range H).map λi=>x^i%p
def shs(p x H:Nat):List Nat:=(List.range H).map λi=>x^i%p*W64/p
theorem xe(p x H:Nat):(pws p x H).length=H:=by simp [pws]
theorem wV(p x H:Nat):(shs p x H).length=H:=by simp [shs]
theorem ack{p x:Nat}(h:i<H):(pws p x H).getD i 0=x^i%p:=by simp [pws,h]
theorem ab9{p x:Nat}(h:i<H):(shs p x H).getD i 0=x^i%p*W64/p:=by simp [shs,h]
structure Pln (w:TW) (tp:Option Addr) (t p L x back part D:Nat):Prop where
 ex:∃(b bm:Nat) (up dn us ds:Sl),tp=some ⟨b,0,none⟩∧Rw w b [.pointer (some ⟨bm,0,none⟩),.pointer (some ⟨t,0,none⟩),.int .i64 ((L+1:Nat):Int),up.v,dn.v,us.v,ds.v,U part]∧Md w (some ⟨bm,0,none⟩) p∧Rd w up (pws p x (2^L))∧Rd w us (shs p x (2^L))∧Rd w dn (pws p back (2^L))∧Rd w ds (shs p back (2^L))∧
  b<D∧bm<D∧(∀c,up.blk=some c→c<D)∧(∀c,us.blk=some c→c<D)∧(∀c,dn.blk=some c→c<D)∧(∀c,ds.blk=some c→c<D)
 hx:x^2^L%p=p-1
 hb:x*back%p=1
 hp:2^(L+1)*part%p=1
 hL:L+1≤20
 hlt:part<p
 tD:t<D
theorem Md.extB{w w':TW}{bm p:Nat}(h:Md w (some ⟨bm,0,none⟩) p)(e:Ext X w w')(hX:¬X bm):Md w' (some ⟨bm,0,none⟩) p:=by
 obtain⟨b',n,o,u,h1,h2,h3⟩:=h;have:bm=b':=by simpa using h1
 subst this;exact⟨bm,n,o,u,h1,h2.extX e hX,h3⟩
section
variable {w w':TW} {tp:Option Addr} {t p L x back part D:Nat}
theorem Pln.extD(h:Pln w tp t p L x back part D)(e:Ext X w w')(hX:∀c,X c→D≤c):Pln w' tp t p L x back part D:=by
 obtain⟨⟨b,bm,up,dn,us,ds,h1,h2,h3,h4,h5,h6,h7,b1,b2,b3,b4,b5,b6⟩,a1,a2,a3,a4,a5,a6⟩:=h;have n:∀c,c<D→¬X c:=λc hc h=>by have:=hX c h;omega
 exact⟨⟨b,bm,up,dn,us,ds,h1,h2.extX e (n _ b1),h3.extB e (n _ b2),h4.extX e λc hc=>n _ (b3 c hc),h5.extX e λc hc=>n _ (b4 c hc),h6.extX e λc hc=>n _ (b5 c hc),h7.extX e λc hc=>n _ (b6 c hc),b1,b2,b3,b4,b5,b6⟩,a1,a2,a3,a4,a5,a6⟩
theorem Pln.ext(h:Pln w tp t p L x back part D)(e:Ext aa w w'):Pln w' tp t p L x back part D:=h.extD e λ_ h=>h.elim
theorem Pln.here(h:Pln w tp t p L x back part D):Pln w.here tp t p L x back part D:=by
 obtain⟨⟨b,bm,up,dn,us,ds,h1,h2,h3,h4,h5,h6,h7,hB⟩,a1,a2,a3,a4,a5,a6⟩:=h;exact⟨⟨b,bm,up,dn,us,ds,h1,h2.here,h3.here,h4.here,h5.here,h6.here,h7.here,hB⟩,a1,a2,a3,a4,a5,a6⟩
theorem Pln.extT(h:Pln w tp t p L x back part D)(hT:Tz w t)(e:Xt1 t w w'):Pln w' tp t p L x back part D:=by
 obtain⟨⟨b,bm,up,dn,us,ds,h1,h2,h3,h4,h5,h6,h7,hB⟩,a1,a2,a3,a4,a5,a6⟩:=h;exact⟨⟨b,bm,up,dn,us,ds,h1,h2.extT hT smp e,h3.extT hT e,h4.extT hT e,h5.extT hT e,h6.extT hT e,h7.extT hT e,hB⟩,a1,a2,a3,a4,a5,a6⟩
theorem Pln.drew(h:Pln w tp t p L x back part D):Pln w.drew tp t p L x back part D:=h.ext (Ext.refl _ _).drew
theorem Pln.rng(h:Pln w tp t p L x back part D):3≤p∧p<4611686018427387904∧p%2=1:=by
 obtain⟨b,bm,up,dn,us,ds,h1,h2,h3,h4,h5,h6,h7⟩:=h.ex;exact h3.rng
theorem Pln.md(h:Pln w tp t p L x back part D)(hK:∀a mp,(∀w',Ext aa w w'→w'.w.cell? a=some (.pointer mp))→Md w mp p→K a mp)(e:Ext aa w w'):nck tp λa=>ldc (.ptr) w' a λv=>K a v:=by
 obtain⟨b,bm,up,dn,us,ds,rfl,h2,h3,_⟩:=h.ex;exact ah ⟨some ⟨bm,0,none⟩,((h2.ext e).cell 0).trans rfl,hK _ _ (λw' e'=>((h2.ext e').cell 0).trans rfl) h3⟩
theorem Pln.mt(h:Pln w tp t p L x back part D)(hK:∀a,K a (some ⟨t,0,none⟩))(e:Ext aa w w'):nck tp λa=>ldc (.ptr) w' (a.add 1) λv=>K a v:=by
 obtain⟨b,bm,up,dn,us,ds,rfl,h2,h3,_⟩:=h.ex;exact ah ⟨_,((h2.ext e).cell 1).trans rfl,hK _⟩
theorem Pln.lgc(h:Pln w tp t p L x back part D){a:Addr}(ha:tp=some a):w.w.cell? (a.add 2)=some (.int .i64 ((L+1:Nat):Int)):=by
 obtain⟨b,bm,up,dn,us,ds,rfl,h2,h3,_⟩:=h.ex;cases ha;exact (h2.cell 2).trans rfl
theorem Pln.lg(h:Pln w tp t p L x back part D){K:Addr→Int→Prop}(hK:∀a,tp=some a→(∀w',Ext aa w w'→w'.w.cell? (a.add 2)=some (.int .i64 ((L+1:Nat):Int)))→K a ((L+1:Nat):Int))(e:Ext aa w w'):nck tp λa=>ldc (.int .i64) w' (a.add 2) λv=>K a v:=by
 obtain⟨b,bm,up,dn,us,ds,rfl,h2,h3,_⟩:=h.ex;exact ah ⟨((L+1:Nat):Int),((h2.ext e).cell 2).trans rfl,hK _ rfl (λw' e'=>((h2.ext e').cell 2).trans rfl)⟩
theorem qZ(h:Pln w tp t p L x back part D):Ct Pg F.eK [.pointer tp] w aa [.one (.int .i64)] λ(r:Int) _=>r=(2^(L+1):Nat):=by
 refine Ct.eK ?_;unfold Sh.eK;have hL:=h.hL;refine h.here.lg (λa _ _=>?_) (Ext.refl _ _);refine ai (y:=L+1) rfl (by rw [w64];omega) ?_;have:(2:Nat)^(L+1)≤2^20:=Nat.pow_le_pow_right dcd hL;refine⟨om,rt1 (c:=.int .i64) _ (Ext.refl _ _) ?_⟩;rw [Int.toNat_natCast,Nat.min_eq_left (show L+1≤IntKind.i64.bits by show L+1≤64;omega),Int.one_mul,show ((2:Int)^(L+1))=((2^(L+1):Nat):Int) by simp];generalize 2^(L+1)=N at*;exact ar om om
theorem ntt_powers{mp:Option Addr}{y:Nat}(hM:Md w mp p)(hy:y<p)(hH:H≤1048576):Ct Pg F.iK [.pointer mp,.int .u64 y,.int .i64 H] w aa [.one .slice,.one .slice] λ(l s:Sl) w'=>Rd w' l (pws p y H)∧Rd w' s (shs p y H)∧(∀c,l.blk=some c→w.w.heap.size≤c)∧∀c,s.blk=some c→w.w.heap.size≤c:=by
 refine Ct.iK ?_;unfold Sh.iK;have hp:=hM.rng;have hM:=hM.here;have e0:=(Ext.refl aa w.here).drew;refine j2 (λ(l s:Sl) w'=>Ow w' w.w.heap.size l (List.replicate H 0)∧Ow w' w.w.heap.size s (List.replicate H 0)∧(∀c,l.blk=some c→s.blk≠some c)∧l.n=H∧Ext aa w.here w') ?_ ?_
 ·refine⟨bW (N:=H) rfl om λs w1 h1 n1 x1 b1=>bW (N:=H) rfl om λs1 w2 h2 n2 x2 b2=>⟨h1.ext x2,h2.less x1.size,?_,n1,(e0.trans x1).trans x2⟩,bW (N:=H) rfl om λs w1 h1 n1 x1 b1=>bW (N:=H) rfl om λs1 w2 h2 n2 x2 b2=>⟨h2.less x1.size,h1.ext x2,?_,n2,(e0.trans x1).trans x2⟩⟩
  ·intro c hc hs;have:=(h1.from_ c hc).2;have:=(h2.from_ c hs).1;omega
  ·intro c hc hs;have:=(h1.from_ c hs).2;have:=(h2.from_ c hc).1;omega
 rintro l s w1 ⟨hl,hs,hne,hn,e1⟩;have M1:=hM.ext e1;refine j0 (λw'=>Ow w' w.w.heap.size l (pws p y H)∧Ow w' w.w.heap.size s (shs p y H)∧Ext aa w.here w') ?_ ?_
 ·refine lp2 (λm (x i:Int) w'=>∃(j:Nat),x=(y^j%p:Nat)∧i=j∧m=H-j∧j≤H∧Ow w' w.w.heap.size l (pws p y j++List.replicate (H-j) 0)∧Ow w' w.w.heap.size s (shs p y j++List.replicate (H-j) 0)∧Ext aa w.here w') H
   ⟨0,by rw [Nat.pow_zero,Nat.mod_eq_of_lt om];rfl,rfl,rfl,om,by simpa [pws] using hl,by simpa [shs] using hs,e1⟩ ?_
  rintro m x i w2 ⟨j,rfl,rfl,rfl,hj,hl,hs,e2⟩;refine ac (λh=>?_) (λh=>?_)
  ·have hj1:j<H:=om;have hxp:=Nat.mod_lt (y^j) (show 0<p by omega);obtain⟨d,hd⟩:∃d,H-j=d+1:=⟨H-j-1,om⟩;rw [hd] at hl hs;refine hl.put (by simp [pws]) (by rw [w64];omega) rfl λw3 hl3 e3=>?_
   have hs3:Ow w3 w.w.heap.size s _:=hs.extX e3 λc hc h=>hne c h hc
   have e13:=e2.own e3 hl.blk_le;refine c1 (yg (hM.ext e13)) ?_;rintro r w4 e4 rfl;rw [Nat.mod_mod]
   have hsW:y^j%p*W64/p<W64:=by
    refine (Nat.div_lt_iff_lt_mul om).2 ?_;rw [Nat.mul_comm];exact Nat.mul_lt_mul_of_pos_left hxp dcd
   refine (hs3.ext e4).put (by simp [shs]) hsW rfl λw5 hs5 e5=>?_
   have hl5:Ow w5 w.w.heap.size l _:=(hl3.ext e4).extX e5 λc hc h=>hne c hc h
   have e15:=(e13.trans e4).own e5 hs3.blk_le;refine c1 (iu (hM.ext e15)) ?_;rintro r w6 e6 rfl;refine ab om om ⟨d,om,j+1,?_,om,om,om,?_,?_,e15.trans e6⟩
   ·rw [Nat.pow_succ,Nat.mul_mod,Nat.mod_mod,←Nat.mul_mod]
   ·rw [show H-(j+1)=d by omega,show pws p y (j+1)=pws p y j++[y^j%p] by simp [pws,List.range_succ]];exact hl5.ext e6
   ·rw [show H-(j+1)=d by omega,show shs p y (j+1)=shs p y j++[y^j%p*W64/p] by simp [shs,List.range_succ]];exact hs5.ext e6
  ·have:j=H:=om;subst this;rw [Nat.sub_self,List.replicate_zero,List.append_nil] at hl hs;exact⟨hl,hs,e2⟩
 rintro w2 ⟨hl,hs,e2⟩;exact rt2 (c:=.slice) (d:=.slice) _ _ e2 ⟨hl.rd.at_,hs.rd.at_,hl.blk_le,hs.blk_le⟩
theorem ntt_New{q:Nat}{m now deep:Int}{tab:List Int}(hG:Gl w)(hT:Tn w t m now deep tab)(hq:TP q)(hL:L+1≤20):Ct Pg F.kE [.pointer (some ⟨t,0,none⟩),.int .u64 q,.int .i64 ((L+1:Nat):Int)] w aa [.one .ptr,.one (.int .i64)] λ(tp:Option Addr)(e:Int) w'=>e=0∧∃x back part,Pln w' tp t q L x back part w'.w.heap.size:=by
 obtain⟨h3,hlt,hodd,hP,-,-⟩:=hq.ok;refine Ct.kE ?_;unfold Sh.kE;refine c2 (prime_Root hG.here hq hL) ?_;rintro r e w1 e1 ⟨rfl,x,rfl,hx,hxL⟩;refine ap dcd ?_;refine c2 (modw_New h3 hlt hodd) ?_;rintro mp e w2 e2 ⟨rfl,hM,bm,rfl,hbm⟩;refine ap dcd ?_;intro b w3 hn;have e3:Ext aa w2 w3:=hn.ext _;have hb:w.w.heap.size≤b:=by rw [hn.at_];exact Nat.le_trans e1.size e2.size
 have hb2:w2.w.heap.size=b:=hn.at_.symm;have R0:Rw w3 b [.pointer (some ⟨bm,0,none⟩),.pointer (some ⟨t,0,none⟩),.int .i64 ((L+1:Nat):Int),Sl.nil.v,Sl.nil.v,Sl.nil.v,Sl.nil.v,U 0]:=⟨⟨_,hn.heap⟩,λhV=>by rw [hn.V] at hV;have:=w2.lt _ hV;omega⟩;have M3:=hM.ext e3;have hp2:(2:Nat)^(L+1)≤2^20:=Nat.pow_le_pow_right dcd hL;have hpL:=Nat.two_pow_pos L;have hpe:2^(L+1)=2*2^L:=by rw [Nat.pow_succ,Nat.mul_comm]
 refine ai (y:=L+1) rfl (by rw [w64];omega) (oy (x:=1) (n:=L+1) rfl rfl om ?_);rw [Nat.one_mul,Nat.mod_eq_of_lt (by rw [w64];omega)]
 have hsz:∀k,∃y,2^k*y%q=1:=by
  intro k;refine⟨((q+1)/2)^k,?_⟩;rw [←Nat.mul_pow,show 2*((q+1)/2)=q+1 by omega,Nat.pow_mod,Nat.add_mod_left,Nat.mod_eq_of_lt (show 1<q by omega),Nat.one_pow,Nat.mod_eq_of_lt om]
 have hxi:∃y,x*y%q=1:=by
  have h1:x*x^(2^(L+1)-1)=x^2^(L+1):=by rw [←Nat.pow_succ'];congr 1;omega
  refine⟨x^(2^(L+1)-1),?_⟩;rw [h1,hpe,Nat.mul_comm 2,Nat.pow_mul,Nat.pow_mod,hxL];obtain⟨z,rfl⟩:∃z,q=z+1:=⟨q-1,om⟩
  rw [Nat.add_sub_cancel,show z^2=(z+1)*(z-1)+1 by
   obtain⟨y,rfl⟩:∃y,z=y+1:=⟨z-1,om⟩;rw [Nat.add_sub_cancel];grind,Nat.mul_add_mod,Nat.mod_eq_of_lt om]
 refine c2 (pn M3 (hsz (L+1))) ?_;rintro r ok w4 e4 ⟨rfl,part,rfl,hpt,hpart⟩;refine (R0.ext e4).put (j:=7) rfl smp (U part) λw5 R1 e5=>?_
 have e15:=(((e1.trans e2).trans e3).trans e4).mine e5 λc hc=>by subst hc;exact hb
 have M5:Md w5 (some ⟨bm,0,none⟩) q:=by
  obtain⟨b',n,o,u,h1,h2,h3⟩:=M3.ext e4;refine⟨b',n,o,u,h1,h2.extX e5 λh=>?_,h3⟩;have:b'=bm:=by simpa using h1.symm
  have:=hM.ext (Ext.refl _ _);obtain⟨b2,_,_,_,k1,k2,_⟩:=this;have:=k2.lt;have:b2=bm:=by simpa using k1.symm
  omega
 refine c2 (pn M5 hxi) ?_;rintro r ok w6 e6 ⟨rfl,back,rfl,hbk,hback⟩;have M6:=M5.ext e6;rw [hpe];refine j6 (x:=2*2^L) (y:=2) rfl rfl (by rw [w64];omega) dcd (ab om om ?_);rw [Nat.mul_div_cancel_left _ (by decide:0<2)];refine c2 (ntt_powers M6 hx om) ?_;rintro up us w7 e7 ⟨hu1,hu2,hu3,hu4⟩;have hbl:b<w6.w.heap.size:=(R1.ext e6).lt
 have hbm2:bm≠b:=by
  obtain⟨b2,_,_,_,k1,k2,_⟩:=hM;have:=k2.lt;have:bm=b2:=by simpa using k1
  omega
 have mdX:∀{w0 w1:TW},Md w0 (some ⟨bm,0,none⟩) q→Ext (λk=>k=b) w0 w1→Md w1 (some ⟨bm,0,none⟩) q:=by
  rintro w0 w1 ⟨b',n,o,u,h1,h2,h3⟩ e;refine⟨b',n,o,u,h1,h2.extX e λh=>?_,h3⟩;have:bm=b':=by simpa using h1
  omega
 have rdX:∀{w0 w1:TW} {s:Sl} {l:List Nat},Rd w0 s l→(∀c,s.blk=some c→w6.w.heap.size≤c)→Ext (λk=>k=b) w0 w1→Rd w1 s l:=λh1 h2 e=>h1.extX e λc hc h=>by have:=h2 c hc;omega
 refine ((R1.ext e6).ext e7).put (j:=3) rfl smp up.v λw8 R2 e8=>?_
 refine R2.put (j:=5) rfl smp us.v λw9 R3 e9=>?_
 have e19:=(((e15.trans e6).trans e7).mine e8 λc hc=>by subst hc;exact hb).mine e9 λc hc=>by subst hc;exact hb
 have M9:=mdX (mdX (M6.ext e7) e8) e9;have hu1:=rdX (rdX hu1 hu3 e8) hu3 e9;have hu2:=rdX (rdX hu2 hu4 e8) hu4 e9;refine j6 (x:=2*2^L) (y:=2) rfl rfl (by rw [w64];omega) dcd (ab om om ?_);rw [Nat.mul_div_cancel_left _ (by decide:0<2)];refine c2 (ntt_powers M9 hbk om) ?_;rintro dn ds w10 e10 ⟨hd1,hd2,hd3,hd4⟩;have hsz9:w6.w.heap.size≤w9.w.heap.size:=Nat.le_trans e7.size (Nat.le_trans e8.size e9.size);have hd3:∀c,dn.blk=some c→w6.w.heap.size≤c:=λc hc=>Nat.le_trans hsz9 (hd3 c hc)
 have hd4:∀c,ds.blk=some c→w6.w.heap.size≤c:=λc hc=>Nat.le_trans hsz9 (hd4 c hc)
 refine (R3.ext e10).put (j:=4) rfl smp dn.v λw11 R4 e11=>?_
 refine R4.put (j:=6) rfl smp ds.v λw12 R5 e12=>?_
 have e1z:=((e19.trans e10).mine e11 λc hc=>by subst hc;exact hb).mine e12 λc hc=>by subst hc;exact hb
 have q1:=(rdX (rdX (hu1.ext e10) hu3 e11) hu3 e12);have q2:=(rdX (rdX (hu2.ext e10) hu4 e11) hu4 e12);have q3:=(rdX (rdX hd1 hd3 e11) hd3 e12);have q4:=(rdX (rdX hd2 hd4 e11) hd4 e12);have q5:=mdX (mdX (M9.ext e10) e11) e12
 have q5b:bm<w12.w.heap.size:=by
  obtain⟨b2,_,_,_,k1,k2,_⟩:=q5;have:=k2.lt;have:bm=b2:=by simpa using k1
  omega
 have ne1:∀z,pws q z (2^L)≠[]:=λz h=>by have:=congrArg List.length h;rw [xe] at this;simp at this
 have ne2:∀z,shs q z (2^L)≠[]:=λz h=>by have:=congrArg List.length h;rw [wV] at this;simp at this
 refine rt2 (c:=.ptr) (d:=.int .i64) (some ⟨b,0,none⟩) _ e1z ⟨rfl,x,back,part,⟨⟨b,bm,up,dn,us,ds,rfl,R5.mv,q5.at,q1.at_,q2.at_,q3.at_,q4.at_,R5.lt,q5b,q1.lt_blk (ne1 _),q2.lt_blk (ne2 _),q3.lt_blk (ne1 _),q4.lt_blk (ne2 _)⟩,hxL,hback,hpart,hL,hpt,Nat.lt_of_lt_of_le hT.lt e1z.size⟩⟩
end
end
section
variable {a:Sl} {X:Nat→Int} {z:Int} {n q s:Nat} {A:List Nat}
theorem nF{l:List Nat}{i k x:Nat}(hk:i<l.length):(l.set i x).getD k 0=if k=i then x else l.getD k 0:=by
 by_cases h:k=i
 ·subst h;simp [hk]
 ·rw [if_neg h,getD_set_ne om]
section
variable {w w':TW} {tp:Option Addr} {t p L x back part D:Nat}
theorem se(h:Pln w tp t p L x back part D){la:List Nat}(ha:Rd w a la)(hl:la.length≤2^(L+1)):Ct Pg F.dU [.pointer tp,a.v] w aa [.one .slice] λ(s:Sl) w'=>∃A,Ow w' w.w.heap.size s A∧A.length=2^(L+1)∧∀k,k<2^(L+1)→A.getD k 0=la.getD (rv (L+1) k) 0%p:=by
 refine Ct.dU ?_;unfold Sh.dU;have hp:=h.rng;have hL:=h.hL;have na:=ha.len;have hN:(2:Nat)^(L+1)≤2^20:=Nat.pow_le_pow_right dcd hL;refine c1 (qZ h.here) ?_;rintro r w1 e1 rfl;refine bW (N:=2^(L+1)) rfl om λs w2 hs hn x2 _=>?_
 have e2:=e1.trans x2;have hs:Ow w2 w1.w.heap.size s _:=hs;refine j0 (λw'=>∃A,Ow w' w1.w.heap.size s A∧A.length=2^(L+1)∧(∀k,k<2^(L+1)→A.getD k 0=la.getD (rv (L+1) k) 0%p)∧Ext aa w1 w') ?_ ?_
 ·refine lp1 (λm (i:Int) w'=>∃(j:Nat) (A:List Nat),i=j∧m=la.length-j∧j≤la.length∧Ow w' w1.w.heap.size s A∧A.length=2^(L+1)∧(∀k,k<2^(L+1)→A.getD k 0=if rv (L+1) k<j then la.getD (rv (L+1) k) 0%p else 0)∧Ext aa w1 w') la.length ⟨0,_,rfl,rfl,om,hs,smp,λk hk=>by simp [List.getD_eq_getElem?_getD,List.getElem?_replicate,hk],x2⟩ ?_;rintro m i w3 ⟨j,A,rfl,rfl,hj,hA,hAl,hAk,e3⟩;have hw3:=e1.trans e3;refine ac (λhc=>?_) (λhc=>?_)
  ·have hj1:j<la.length:=om;have hjN:j<2^(L+1):=om;refine (ha.here.ext hw3).ix rfl hj1 ?_;have hlt:=ha.lt j;refine ai (y:=j) rfl (by rw [w64];omega) ?_;refine h.here.lg (λa2 _ k2=>?_) hw3.drew;refine ab om om (ai (y:=64-(L+1)) om (by rw [w64];omega) ?_);refine h.here.md (λa3 mp k3 hM=>?_) hw3.drew;refine c1 (bits_Reverse64 (by rw [w64];omega)) ?_;rintro r w4 e4 rfl;have e14:=hw3.drew.trans e4;refine mJ (k3 _ e14) (k2 _ e14) ?_;refine jC (n:=64-(L+1)) rfl rfl (by show 64-(L+1)≤64;omega) ?_;rw [aaJ om hjN];refine c1 (rh (hM.ext e14)) ?_;rintro r w5 e5 rfl;have e15:=e14.trans e5;refine kG (k2 _ e15) ?_;have hr:=oW (L+1) j;have hml:=Nat.mod_lt (la.getD j 0) (show 0<p by omega);have hA5:=(hA.drew.ext e4).ext e5;refine hA5.store (j:=rv (L+1) j) rfl om (by rw [w64];omega) rfl λw6 hA6 e6=>?_
   refine ab om om ⟨la.length-(j+1),om,j+1,_,om,rfl,om,hA6,by simp [hAl],λk hk=>?_,((e3.drew.trans e4).trans e5).own e6 hA5.blk_le⟩;rw [nF om,hAk k hk];by_cases hkr:k=rv (L+1) j
   ·rw [if_pos hkr,hkr,abP hjN,if_pos om]
   ·rw [if_neg hkr];have hne:rv (L+1) k≠j:=λh'=>hkr (by rw [←h',abP hk])
    by_cases h2:rv (L+1) k<j
    ·rw [if_pos h2,if_pos om]
    ·rw [if_neg h2,if_neg om]
  ·have:j=la.length:=om;subst this;refine⟨A,hA,hAl,λk hk=>?_,e3⟩;rw [hAk k hk];split
   ·rfl
   ·rename_i h';rw [show la.getD (rv (L+1) k) 0=0 by simp [show la.length≤rv (L+1) k by omega],Nat.zero_mod]
 rintro w3 ⟨A,hA,hAl,hAk,e3⟩;exact rt1 (c:=.slice) _ (e1.trans e3) ⟨A,(hA.less e1.size).at,hAl,hAk⟩
def Lvl(p:Nat)(X:Nat→Int)(z:Int)(n s q j:Nat)(A:List Nat):Prop:=
 A.length=2^n∧∀i,i<2^n→A.getD i 0<p∧cg p (A.getD i 0:Nat) (if i<q*2^(s+1)∨(i<(q+1)*2^(s+1)∧(i-q*2^(s+1))%2^s<j) then lev X z n (s+1) i else lev X z n s i)
theorem Lvl.next(h:Lvl p X z n s q (2^s) A):Lvl p X z n s (q+1) 0 A:=by
 refine⟨h.1,λi hi=>⟨(h.2 i hi).1,?_⟩⟩;have:=(h.2 i hi).2;have hm:=Nat.mod_lt (i-q*2^(s+1)) (Nat.two_pow_pos s);by_cases hc:i<(q+1)*2^(s+1)
 ·rw [if_pos (.inr ⟨hc,hm⟩)] at this;rw [if_pos (.inl hc)];exact this
 ·have h0:¬i<q*2^(s+1):=by rw [Nat.succ_mul] at hc;omega
  rw [if_neg (by rintro (h1|⟨h1,_⟩);exact h0 h1;exact hc h1)] at this;rw [if_neg (by rintro (h1|⟨_,h1⟩);exact hc h1;exact absurd h1 (Nat.not_lt_zero _))];exact this
theorem Lvl.up(hs:s<n)(h:Lvl p X z n s (2^(n-s-1)) 0 A):Lvl p X z n (s+1) 0 0 A:=by
 refine⟨h.1,λi hi=>⟨(h.2 i hi).1,?_⟩⟩;have:=(h.2 i hi).2;rw [if_pos (.inl (by rw [←Nat.pow_add,show n-s-1+(s+1)=n by omega];exact hi))] at this;rw [if_neg om];exact this
theorem Lvl.pair{j:Nat}(h:Lvl p X z n s q j A)(hs:s<n)(hj:j<2^s)(hq:q<2^(n-s-1))(hz:cg p (z^2^(n-1)) (-1)){y S T:Nat}(hy:cg p y (z^(j*2^(n-s-1))*(A.getD (q*2^(s+1)+j+2^s) 0:Nat)))(hS:S<p)(hS2:cg p S ((A.getD (q*2^(s+1)+j) 0:Nat)+y))(hT:T<p)(hT2:cg p T ((A.getD (q*2^(s+1)+j) 0:Nat)-(y:Int))):
  Lvl p X z n s q (j+1) ((A.set (q*2^(s+1)+j) S).set (q*2^(s+1)+j+2^s) T):=by
 obtain⟨hl,hA⟩:=h;have h2:2^(s+1)=2*2^s:=by rw [Nat.pow_succ,Nat.mul_comm]
 have hQ:(q+1)*2^(s+1)≤2^n:=by
  have:(q+1)*2^(s+1)≤2^(n-s-1)*2^(s+1):=Nat.mul_le_mul_right _ hq;rw [←Nat.pow_add,show n-s-1+(s+1)=n by omega] at this;exact this
 rw [Nat.succ_mul] at hQ;have hp:=Nat.two_pow_pos s;obtain⟨k1,k2⟩:=aa8 (p:=p) (x:=X) (w:=z) (q:=q) hs hj hz;have b0:=(hA (q*2^(s+1)+j) om).2;have b1:=(hA (q*2^(s+1)+j+2^s) om).2;have m0:(q*2^(s+1)+j-q*2^(s+1))%2^s=j:=by rw [Nat.add_sub_cancel_left,Nat.mod_eq_of_lt hj]
 have m1:(q*2^(s+1)+j+2^s-q*2^(s+1))%2^s=j:=by rw [Nat.add_assoc,Nat.add_sub_cancel_left,Nat.add_mod_right,Nat.mod_eq_of_lt hj]
 rw [if_neg (by rw [m0];omega)] at b0;rw [if_neg (by rw [m1];omega)] at b1;have hy':cg p y (z^(j*2^(n-s-1))*lev X z n s (q*2^(s+1)+j+2^s)):=hy.trans (cg.rfl'.mul b1);refine⟨by simp [hl],λi hi=>?_⟩;rw [nF (by simp [hl];omega),nF om];obtain⟨g1,g2⟩:=hA i hi;by_cases hi1:i=q*2^(s+1)+j+2^s
 ·rw [if_pos hi1];subst hi1;refine⟨hT,?_⟩;rw [if_pos (.inr ⟨by rw [Nat.succ_mul];omega,by rw [m1];omega⟩)];exact (hT2.trans (b0.sub hy')).trans k2.symm
 ·rw [if_neg hi1];by_cases hi0:i=q*2^(s+1)+j
  ·rw [if_pos hi0];subst hi0;refine⟨hS,?_⟩;rw [if_pos (.inr ⟨by rw [Nat.succ_mul];omega,by rw [m0];omega⟩),k1];exact hS2.trans (b0.add hy')
  ·rw [if_neg hi0];refine⟨g1,?_⟩
   have:(i<q*2^(s+1)∨(i<(q+1)*2^(s+1)∧(i-q*2^(s+1))%2^s<j+1))↔(i<q*2^(s+1)∨(i<(q+1)*2^(s+1)∧(i-q*2^(s+1))%2^s<j)):=by
    by_cases hlo:i<q*2^(s+1)
    ·simp [hlo]
    by_cases hhi:i<(q+1)*2^(s+1)
    ·have hne:(i-q*2^(s+1))%2^s≠j:=by
      intro h0;rw [Nat.succ_mul] at hhi;obtain⟨d,hd⟩:∃d,i=q*2^(s+1)+d:=⟨i-q*2^(s+1),om⟩;rw [hd,Nat.add_sub_cancel_left] at h0;rcases Nat.lt_or_ge d (2^s) with h3|h3
      ·rw [Nat.mod_eq_of_lt h3] at h0;omega
      ·rw [Nat.mod_eq_sub_mod h3,Nat.mod_eq_of_lt om] at h0;omega
     simp only [hlo,hhi,false_or,true_and];omega
    ·simp [hlo,hhi]
   simp only [this];exact g2
theorem Pln.zc{z:Nat}(hp:1≤p)(h:z^2^L%p=p-1):cg p ((z:Int)^2^L) (-1):=by
 have h1:=(@cg.mod p (z^2^L)).symm;rw [h] at h1;simp only [Int.natCast_pow] at h1;exact h1.trans ⟨1,om⟩
set_option maxHeartbeats 1000000 in
theorem pG(h:Pln w tp t p L x back part D){l s:Sl}{z:Nat}{m now deep:Int}{tab:List Int}(hT:Tn w t m now deep tab)(ha:Ow w D a A)(hAl:A.length=2^(L+1))(hl:Rd w l (pws p z (2^L)))(hlb:∀c,l.blk=some c→c<D)(hs:Rd w s (shs p z (2^L)))(hsb:∀c,s.blk=some c→c<D)(hz:z^2^L%p=p-1)(hA:∀i,i<2^(L+1)→A.getD i 0<p∧cg p (A.getD i 0:Nat) (X (rv (L+1) i))):
  Ct Pg F.co [.pointer tp,a.v,l.v,s.v] w (λk=>a.blk=some k∨k=t) [] λw'=>∃A' m',Ow w' D a A'∧A'.length=2^(L+1)∧(∀i,i<2^(L+1)→A'.getD i 0<p∧cg p (A'.getD i 0:Nat) (Tf X z (2^(L+1)) 0 1 i))∧Tn w' t m' now deep tab:=by
 refine Ct.co ?_;unfold Sh.co;have hp:=h.rng;have hL:=h.hL;have na:=ha.rd.len;have hN:(2:Nat)^(L+1)≤2^20:=Nat.pow_le_pow_right dcd hL;have hzc:=Pln.zc om hz;refine h.here.md (λa1 mp k1 hM=>?_) (Ext.refl _ _);refine c1 (zJ hM) ?_;rintro r w1 e1 rfl;have aD:∀c,a.blk=some c→D≤c:=ha.blk_le;have nD:∀c,c<D→¬a.blk=some c:=λc hc h=>by have:=aD c h;omega
 have ha1:=(Ow.here ha).ext e1;have e1:Ext (λk=>a.blk=some k) w.here w1:=e1.any;have aD:∀c,a.blk=some c→D≤c:=ha.blk_le;have nD:∀c,c<D→¬a.blk=some c:=λc hc h=>by have:=aD c h;omega
 have Hp:∀{v:TW},Ext (λk=>a.blk=some k) w.here v→Pln v tp t p L x back part D:=λe=>h.here.extD e aD
 have Hl:∀{v:TW},Ext (λk=>a.blk=some k) w.here v→Rd v l (pws p z (2^L)):=λe=>hl.here.extX e λc hc=>nD c (hlb c hc)
 have Hs:∀{v:TW},Ext (λk=>a.blk=some k) w.here v→Rd v s (shs p z (2^L)):=λe=>hs.here.extX e λc hc=>nD c (hsb c hc)
 refine j0 (λw'=>∃A',Ow w' D a A'∧Lvl p X z (L+1) (L+1) 0 0 A'∧Ext (λk=>a.blk=some k) w.here w') ?_ ?_
 ·refine lp1 (λm (half:Int) w'=>∃(u:Nat) (A':List Nat),half=(2^u:Nat)∧m=L+1-u∧u≤L+1∧Ow w' D a A'∧Lvl p X z (L+1) u 0 0 A'∧Ext (λk=>a.blk=some k) w.here w') (L+1) ⟨0,A,rfl,rfl,om,ha1,⟨hAl,λi hi=>⟨(hA i hi).1,?_⟩⟩,e1⟩ ?_
  ·rw [if_neg (by rintro (h1|⟨_,h1⟩)<;>omega),aa7];exact (hA i hi).2
  rw [hAl] at na;clear hA ha1;rintro m half w2 ⟨u,A,rfl,rfl,hu,ha2,hV,e2⟩;have hu0:=Nat.two_pow_pos u;refine ac (λhc=>?_) (λhc=>?_)
  ·have hu1:u<L+1:=by
    have hc:2^u<2^(L+1):=om;exact (Nat.pow_lt_pow_iff_right dcd).1 hc
   have hu2:2^(u+1)=2*2^u:=by rw [Nat.pow_succ,Nat.mul_comm]
   have huN:2^(L+1-u-1)*2^(u+1)=2^(L+1):=by rw [←Nat.pow_add];congr 1;omega
   have huL:2^u*2^(L+1-u-1)=2^L:=by rw [←Nat.pow_add];congr 1;omega
   have hup:2^(u+1)≤2^(L+1):=Nat.pow_le_pow_right dcd hu1;obtain⟨st,hst⟩:∃st,2^(L+1-u-1)=st:=⟨_,rfl⟩;rw [hst] at huN huL;have hst0:0<st:=by rw [←hst];exact Nat.two_pow_pos _
   refine ag (y:=((2^(u+1):Nat):Int)) (by rw [hu2,ar om om];omega) ?_;refine jb (x:=2^(L+1)) (y:=2^(u+1)) om rfl om om ?_;rw [show 2^(L+1)/2^(u+1)=st by rw [←huN];exact Nat.mul_div_cancel _ om];refine j0 (λw'=>∃A',Ow w' D a A'∧Lvl p X z (L+1) (u+1) 0 0 A'∧Ext (λk=>a.blk=some k) w.here w') ?_ ?_
   ·refine lp1 (λm (from_:Int) w'=>∃(q:Nat) (A':List Nat),from_=(q*2^(u+1):Nat)∧m=st-q∧q≤st∧Ow w' D a A'∧Lvl p X z (L+1) u q 0 A'∧Ext (λk=>a.blk=some k) w.here w') st ⟨0,A,smp,rfl,om,ha2,hV,e2⟩ ?_;clear ha2 hV e2;rintro m from_ w3 ⟨q,A,rfl,rfl,hq,ha3,hV,e3⟩;have hqle:q*2^(u+1)≤st*2^(u+1):=Nat.mul_le_mul_right _ hq;refine ac (λhc=>?_) (λhc=>?_)
    ·have hq1:q<st:=by
      rcases Nat.lt_or_ge q st with h|h
      ·exact h
      ·have:=Nat.mul_le_mul_right (2^(u+1)) h;omega
     have hqN:(q+1)*2^(u+1)≤2^(L+1):=by rw [←huN];exact Nat.mul_le_mul_right _ hq1
     rw [Nat.succ_mul] at hqN;refine j0 (λw'=>∃A',Ow w' D a A'∧Lvl p X z (L+1) u q (2^u) A'∧Ext (λk=>a.blk=some k) w.here w') ?_ ?_
     ·refine lp1 (λm (i:Int) w'=>∃(j:Nat) (A':List Nat),i=j∧m=2^u-j∧j≤2^u∧Ow w' D a A'∧Lvl p X z (L+1) u q j A'∧Ext (λk=>a.blk=some k) w.here w') (2^u) ⟨0,A,rfl,rfl,om,ha3,hV,e3⟩ ?_;clear ha3 hV e3;rintro m i w4 ⟨j,A,rfl,rfl,hj,ha4,hV,e4⟩;refine ac (λhc=>?_) (λhc=>?_)
      ·have hj1:j<2^u:=om;have hAl:=hV.1;obtain⟨i0,hi0⟩:∃i0,q*2^(u+1)+j=i0:=⟨_,rfl⟩;have r0:=(hV.2 i0 om).1;have r1:=(hV.2 (i0+2^u) om).1;refine ag (y:=(i0:Int)) (by rw [ar om om];omega) ?_;refine ha4.rd.ix rfl om ?_;refine (Hp e4).md (λa3 mp2 _ hM2=>?_) (Ext.refl _ _).drew;refine ag (y:=((q*2^(u+1)+2^u:Nat):Int)) (by rw [ar om om];omega) (ag (y:=((i0+2^u:Nat):Int)) (by rw [ar om om];omega) ?_);refine ha4.drew.rd.ix rfl om ?_;have hjst:j*st<2^L:=by rw [←huL];exact Nat.mul_lt_mul_of_pos_right hj1 hst0
       have hLL:2^L≤2^(L+1):=Nat.pow_le_pow_right dcd om;have ejs:wi ((j:Int)*(st:Int))=((j*st:Nat):Int):=mD om;refine ag ejs ((Hl e4).drew.ix rfl (by rw [xe];exact hjst) (ag ejs ((Hs e4).drew.ix rfl (by rw [wV];exact hjst) ?_)));rw [ack hjst,ab9 hjst];refine c1 (uq hM2.drew (by rw [Nat.mod_mod])) ?_;rintro y w5 e5 rfl;have hA5:=ha4.drew.ext e5;have e15:=e4.drew.trans e5.any
       have hcy:cg p (A.getD (i0+2^u) 0*(z^(j*st)%p)%p:Nat) ((z:Int)^(j*2^(L+1-u-1))*(A.getD (i0+2^u) 0:Nat)):=by
        rw [hst];refine cg.mod.trans ?_;rw [Int.natCast_mul,Int.mul_comm];refine cg.mul ?_ cg.rfl';have:=@cg.mod p (z^(j*st));simpa using this
       have hyp:=Nat.mod_lt (A.getD (i0+2^u) 0*(z^(j*st)%p)) (show 0<p by omega);obtain⟨y,hy⟩:∃y,A.getD (i0+2^u) 0*(z^(j*st)%p)%p=y:=⟨_,rfl⟩;rw [hy] at hcy hyp ⊢;obtain⟨v,hv⟩:∃v,A.getD i0 0=v:=⟨_,rfl⟩;rw [hv] at r0 ⊢;refine ai (y:=v+y) om (by rw [w64];omega) ?_;refine j1 (λ(sum:Int) w'=>(∃S:Nat,sum=S∧S<p∧cg p S ((v:Int)+y))∧w'=w5) ?_ ?_
       ·refine ac (λhc=>?_) (λhc=>?_)
        ·exact fA rfl rfl om (by rw [w64];omega) ⟨⟨_,rfl,om,⟨-1,om⟩⟩,rfl⟩
        ·exact⟨⟨v+y,rfl,om,cg.of om⟩,rfl⟩
       rintro sum w5 ⟨⟨S,rfl,hS,hcS⟩,rfl⟩;refine ag (y:=(i0:Int)) (by rw [ar om om];omega) ?_;refine hA5.store rfl om (by rw [w64];omega) rfl λw6 hA6 e6=>?_
       have e16:=e15.trans e6;refine j1 (λ(xx:Int) w'=>(∃V:Nat,xx=V∧y≤V∧V<y+p∧cg p V v)∧w'=w6) ?_ ?_
       ·refine ac (λhc=>?_) (λhc=>?_)
        ·exact ai (y:=v+p) om (by rw [w64];omega) ⟨⟨_,rfl,om,om,⟨1,om⟩⟩,rfl⟩
        ·exact⟨⟨v,rfl,om,om,cg.rfl'⟩,rfl⟩
       rintro xx w6 ⟨⟨V,rfl,hV1,hV2,hcV⟩,rfl⟩;refine ag (y:=((q*2^(u+1)+2^u:Nat):Int)) (by rw [ar om om];omega) (ag (y:=((i0+2^u:Nat):Int)) (by rw [ar om om];omega) ?_);refine fA rfl rfl hV1 (by rw [w64];omega) ?_;refine hA6.store rfl (by simp;omega) (by rw [w64];omega) rfl λw7 hA7 e7=>?_
       refine ab om om ⟨2^u-(j+1),om,j+1,_,om,rfl,om,hA7,?_,e16.trans e7⟩;rw [←hi0];rw [←hi0] at hcy hv;refine hV.pair hu1 hj1 (by rw [hst];exact hq1) ?_ hcy hS (by rw [hv];exact hcS) om ?_
       ·rw [Nat.add_sub_cancel];exact hzc
       ·rw [hv,show ((V-y:Nat):Int)=(V:Int)-y by omega];exact hcV.sub cg.rfl'
      ·have:j=2^u:=om;subst this;exact⟨A,ha4,hV,e4⟩
     clear ha3 hV e3;rintro w4 ⟨A,ha4,hV,e4⟩;refine ag (y:=((2^(u+1):Nat):Int)) (by rw [hu2,ar om om];omega) ?_;refine ag (y:=(((q+1)*2^(u+1):Nat):Int)) (by rw [Nat.succ_mul,ar om om];omega) ⟨st-(q+1),om,q+1,A,rfl,rfl,om,ha4,hV.next,e4⟩
    ·have:q=st:=by
      rcases Nat.lt_or_ge q st with h|h
      ·have h2:(q+1)*2^(u+1)≤st*2^(u+1):=Nat.mul_le_mul_right _ h;rw [Nat.succ_mul] at h2;omega
      ·omega
     subst this;exact⟨A,ha3,Lvl.up hu1 (by rw [hst];exact hV),e3⟩
   clear ha2 hV e2;rintro w3 ⟨A,ha3,hV,e3⟩;exact ag (y:=((2^(u+1):Nat):Int)) (by rw [hu2,ar om om];omega) ⟨L+1-(u+1),om,u+1,A,rfl,rfl,om,ha3,hV,e3⟩
  ·have:u=L+1:=by
    rcases Nat.lt_or_ge u (L+1) with h|h
    ·have:2^u<2^(L+1):=Nat.pow_lt_pow_right dcd h;omega
    ·omega
   subst this;exact⟨A,ha2,hV,e2⟩
 rw [hAl] at na;clear ha1 hA;rintro w2 ⟨A,ha2,hV,e2⟩;have hT2:=hT.here.extX e2 λh'=>nD t h.tD h'
 refine (Hp e2).mt (λa2=>?_) (Ext.refl _ _).drew;refine jb (x:=2^(L+1)) (y:=2) om rfl om dcd ?_;refine (Hp e2).lg (λa3 g3 _=>?_) (Ext.refl _ _).drew;have hmul:2^(L+1)/2*(L+1)≤1048576*20:=Nat.mul_le_mul om hL;refine ag (mD om) ?_;refine gW (jw hT2.drew) (λc hc=>by subst hc;exact hT2.V) ?_;intro r w3 e3 hpost;obtain⟨-,hm3⟩:=hpost;refine kG (((Hp e2).drew.extT hT2.drew.tz e3).lgc g3) ?_;refine rt0 ((e2.mono λc _ hc=>.inl hc).drew.trans (e3.mono λc _ hc=>.inr hc)) ⟨A,_,(ha2.drew.extT hT2.drew.tz e3).at,hV.1,λi hi=>?_,hm3.at⟩;have:=hV.2 i hi;rw [if_neg (by rintro (h1|⟨_,h1⟩)<;>omega),aa9 _ _ hi] at this;exact this
end
end
section
variable {K:Sl→Prop} {a b:Sl} {la lb:List Nat} {deep m now:Int} {tab:List Int}
theorem Ext.mineT{X:Nat→Prop}{w0 w w':TW}{t:Nat}(h:Xt1 t w0 w)(k:Ext X w w')(hX:∀b,X b→b=t∨w0.w.heap.size≤b):Xt1 t w0 w':=
 ((h.mono (Y:=λb=>b=t∨X b) λ_ _ h=>.inl h).trans (k.mono λ_ _ h=>.inr h)).mono λb hb hx=>hx.elim id λhx=>(hX b hx).elim id λh'=>absurd h' om
theorem Ow.more{w:TW}{B B':Nat}{s:Sl}{l:List Nat}(h:Ow w B s l)(hB:∀c,s.blk=some c→B'≤c):Ow w B' s l:=by
 obtain⟨⟨⟨h1,h2⟩,h3⟩,h4⟩:=h;refine⟨⟨⟨h1,?_⟩,h3⟩,h4⟩;rcases h2 with h2|⟨b,c,cur,a1,a2,a3⟩
 ·exact .inl h2
 ·refine .inr ⟨b,c,cur,a1,hB b ?_,a3⟩
  have:s.p=some ⟨b,0,none⟩:=by
   have:=a1;simp [Sl.v] at this;exact this.1
  simp [Sl.blk,this]
def red(p:Nat)(la:List Nat)(i:Nat):Int:=(la.getD i 0%p:Nat)
section
variable {w w':TW} {tp:Option Addr} {t p L x back part D:Nat}
theorem Pln.r3(h:Pln w tp t p L x back part D)(hK:∀s,Rd w s (pws p x (2^L))→(∀c,s.blk=some c→c<D)→K s)(e:Ext aa w w'):nck tp λa=>ldc (.slice) w' (a.add 3) K:=by
 obtain⟨b,bm,up,dn,us,ds,rfl,h2,h3,h4,h5,h6,h7,b1,b2,b3,b4,b5,b6⟩:=h.ex;exact ah ⟨up,((h2.ext e).cell 3).trans rfl,hK _ h4 b3⟩
theorem Pln.r5(h:Pln w tp t p L x back part D)(hK:∀s,Rd w s (shs p x (2^L))→(∀c,s.blk=some c→c<D)→K s)(e:Ext aa w w'):nck tp λa=>ldc (.slice) w' (a.add 5) K:=by
 obtain⟨b,bm,up,dn,us,ds,rfl,h2,h3,h4,h5,h6,h7,b1,b2,b3,b4,b5,b6⟩:=h.ex;exact ah ⟨us,((h2.ext e).cell 5).trans rfl,hK _ h5 b4⟩
theorem Pln.r4(h:Pln w tp t p L x back part D)(hK:∀s,Rd w s (pws p back (2^L))→(∀c,s.blk=some c→c<D)→K s)(e:Ext aa w w'):nck tp λa=>ldc (.slice) w' (a.add 4) K:=by
 obtain⟨b,bm,up,dn,us,ds,rfl,h2,h3,h4,h5,h6,h7,b1,b2,b3,b4,b5,b6⟩:=h.ex;exact ah ⟨dn,((h2.ext e).cell 4).trans rfl,hK _ h6 b5⟩
theorem Pln.r6(h:Pln w tp t p L x back part D)(hK:∀s,Rd w s (shs p back (2^L))→(∀c,s.blk=some c→c<D)→K s)(e:Ext aa w w'):nck tp λa=>ldc (.slice) w' (a.add 6) K:=by
 obtain⟨b,bm,up,dn,us,ds,rfl,h2,h3,h4,h5,h6,h7,b1,b2,b3,b4,b5,b6⟩:=h.ex;exact ah ⟨ds,((h2.ext e).cell 6).trans rfl,hK _ h7 b6⟩
theorem Pln.pt(h:Pln w tp t p L x back part D){K:Int→Prop}(hK:K (part:Nat))(e:Ext aa w w'):nck tp λa=>ldc (.int .u64) w' (a.add 7) K:=by
 obtain⟨b,bm,up,dn,us,ds,rfl,h2,h3,h4,h5,h6,h7,b1,b2,b3,b4,b5,b6⟩:=h.ex;exact ah ⟨(part:Nat),((h2.ext e).cell 7).trans rfl,hK⟩
theorem Pln.bz(h:Pln w tp t p L x back part D):back^2^L%p=p-1:=by
 have hp:=h.rng;have h1:=Pln.zc om h.hx
 have h2:cg p ((x:Int)*back) 1:=by
  have:=(@cg.mod p (x*back)).symm;rw [h.hb] at this;simpa using this
 have h3:=h2.pow (2^L);rw [pY,Int.mul_pow] at h3;have h4:=(h1.mul (cg.rfl' (p:=p) (x:=(back:Int)^2^L))).symm.trans h3
 have h5:cg p ((back:Int)^2^L) (-1):=by
  have:=h4.neg;exact (cg.of (by grind)).trans this
 refine cg.nat (p:=p) (cg.mod.trans ((cg.of smp).trans (h5.trans ⟨-1,om⟩))) (by have:=Nat.mod_lt (back^2^L) (show 0<p by omega);omega) om
theorem qR(h:Pln w tp t p L x back part D)(hD:D≤w.w.heap.size)(hT:Tn w t m now deep tab)(ha:Rd w a la)(hl:la.length≤2^(L+1)):
  Ct Pg F.dp [.pointer tp,a.v] w (λk=>k=t) [.one .slice] λ(s:Sl) w'=>∃A' m',Ow w' w.w.heap.size s A'∧A'.length=2^(L+1)∧(∀i,i<2^(L+1)→A'.getD i 0<p∧cg p (A'.getD i 0:Nat) (Tf (red p la) x (2^(L+1)) 0 1 i))∧Tn w' t m' now deep tab:=by
 refine Ct.dp ?_;unfold Sh.dp;have hp:=h.rng;refine c1 (se h.here ha.here hl) ?_;rintro s w1 e1 ⟨A,hA,hAl,hAk⟩;have hA:Ow w1 w.w.heap.size s A:=hA;have P1:=h.here.ext e1;have T1:=hT.here.ext e1;refine P1.r3 (λup hu hub=>P1.r5 (λus hs hsb=>?_) (Ext.refl _ _).drew) (Ext.refl _ _).drew;refine gW (pG (X:=red p la) P1.drew T1.drew (hA.drew.less hD) hAl hu.drew hub hs.drew hsb h.hx λi hi=>?_) ?_ ?_
 ·rw [hAk i hi];exact⟨Nat.mod_lt _ om,cg.rfl'⟩
 ·rintro c (hc|rfl)
  ·exact hA.ow.2 c hc
  ·exact T1.V
 intro w2 e2 ⟨A',m',hA',hAl',hAk',hT2⟩;have e12:Xt1 t w.here w2:=Ext.mineT (e1.any (X:=λk=>k=t)).drew e2 λc hc=>hc.elim (λh'=>.inr (hA.blk_le c h')) .inl
 refine rt1 (c:=.slice) _ e12 ⟨A',m',?_,hAl',hAk',hT2.at⟩;exact (hA'.more λc hc=>hA.blk_le c hc).at
theorem wx(h:Pln w tp t p L x back part D)(hD:D≤w.w.heap.size)(hT:Tn w t m now deep tab)(ha:Rd w a la)(hl:la.length≤2^(L+1)):
  Ct Pg F.ey [.pointer tp,a.v] w (λk=>k=t) [.one .slice] λ(s:Sl) w'=>∃A' m',Ow w' w.w.heap.size s A'∧A'.length=2^(L+1)∧(∀i,i<2^(L+1)→A'.getD i 0<p∧cg p (A'.getD i 0:Nat) ((part:Int)*Tf (red p la) back (2^(L+1)) 0 1 i))∧Tn w' t m' now deep tab:=by
 refine Ct.ey ?_;unfold Sh.ey;have hp:=h.rng;have hL:=h.hL;have hN:(2:Nat)^(L+1)≤2^20:=Nat.pow_le_pow_right dcd hL;refine c1 (se h.here ha.here hl) ?_;rintro s w1 e1 ⟨A,hA,hAl,hAk⟩;have hA:Ow w1 w.w.heap.size s A:=hA;have P1:=h.here.ext e1;have T1:=hT.here.ext e1;refine P1.r4 (λup hu hub=>P1.r6 (λus hs hsb=>?_) (Ext.refl _ _).drew) (Ext.refl _ _).drew;refine gW (pG (X:=red p la) P1.drew T1.drew (hA.drew.less hD) hAl hu.drew hub hs.drew hsb h.bz λi hi=>?_) ?_ ?_
 ·rw [hAk i hi];exact⟨Nat.mod_lt _ om,cg.rfl'⟩
 ·rintro c (hc|rfl)
  ·exact hA.ow.2 c hc
  ·exact T1.V
 intro w2 x2 ⟨A',m',hA',hAl',hAk',hT2⟩;have hA2:Ow w2 w.w.heap.size s A':=hA'.more λc hc=>hA.blk_le c hc
 have e2:Xt1 t w.here w2:=Ext.mineT (e1.any (X:=λk=>k=t)).drew x2 λc hc=>hc.elim (λh'=>.inr (hA.blk_le c h')) .inl
 have P2:Pln w2 tp t p L x back part D:=by
  have hPl:=h.here.extT hT.here.tz e2;exact hPl
 have ns:=hA2.rd.len;clear hA' hA;have sD:∀c,s.blk=some c→D≤c:=λc hc=>Nat.le_trans hD (hA2.blk_le c hc)
 refine j0 (λw'=>∃A'',Ow w' w.w.heap.size s A''∧A''.length=2^(L+1)∧(∀i,i<2^(L+1)→A''.getD i 0=A'.getD i 0*part%p)∧Ext (λk=>s.blk=some k) w2 w') ?_ ?_
 ·refine lp1 (λm (i:Int) w'=>∃(j:Nat) (B:List Nat),i=j∧m=2^(L+1)-j∧j≤2^(L+1)∧Ow w' w.w.heap.size s B∧B.length=2^(L+1)∧(∀i,i<2^(L+1)→B.getD i 0=if i<j then A'.getD i 0*part%p else A'.getD i 0)∧Ext (λk=>s.blk=some k) w2 w') (2^(L+1)) ⟨0,A',rfl,rfl,om,hA2,hAl',λi hi=>by rw [if_neg om],Ext.refl _ _⟩ ?_;rintro m i w3 ⟨j,B,rfl,rfl,hj,hB,hBl,hBk,e3⟩;refine ac (λhc=>?_) (λhc=>?_)
  ·have hj1:j<2^(L+1):=om;refine hB.rd.ix rfl om ?_;have P3:=P2.extD e3 sD;refine P3.md (λa1 mp _ hM=>P3.pt ?_ (Ext.refl _ _).drew) (Ext.refl _ _).drew;refine c1 (iu hM.drew) ?_;rintro r w4 e4 rfl;rw [hBk j hj1,if_neg om];have hml:=Nat.mod_lt (A'.getD j 0*part) (show 0<p by omega);have hB4:=hB.drew.ext e4;refine hB4.store rfl om (by rw [w64];omega) rfl λw5 hB5 e5=>?_
   refine ab om om ⟨2^(L+1)-(j+1),om,j+1,_,om,rfl,om,hB5,by simp [hBl],λi hi=>?_,(e3.drew.trans e4.any).trans e5⟩;rw [nF om,hBk i hi];by_cases hij:i=j
   ·subst hij;rw [if_pos rfl,if_pos om]
   ·rw [if_neg hij];by_cases h2:i<j
    ·rw [if_pos h2,if_pos om]
    ·rw [if_neg h2,if_neg om]
  ·have:j=2^(L+1):=om;subst this;exact⟨B,hB,hBl,λi hi=>by rw [hBk i hi,if_pos hi],e3⟩
 rintro w3 ⟨A2,hA3,hAl3,hAk3,e3⟩;have P3:=P2.extD e3 sD;have nt:∀c,s.blk=some c→c≠t:=λc hc=>by have:=sD c hc;have:=h.tD;omega
 have T3:=hT2.extX e3 λh'=>nt t h' rfl
 refine P3.mt (λa2=>?_) (Ext.refl _ _);refine gW (jw T3) (λc hc=>by subst hc;exact T3.V) ?_;intro r w4 e4 hpost;obtain⟨-,hm4⟩:=hpost;have e14:Xt1 t w.here w4:=(Ext.mineT e2 e3 λc hc=>.inr (hA2.blk_le c hc)).trans e4;refine rt1 (c:=.slice) _ e14 ⟨A2,_,(hA3.extT T3.tz e4).at,hAl3,λi hi=>?_,hm4.at⟩;rw [hAk3 i hi];refine⟨Nat.mod_lt _ om,cg.mod.trans ?_⟩;rw [Int.natCast_mul,Int.mul_comm];exact cg.rfl'.mul (hAk' i hi).2
theorem uX(p:Nat)(la:List Nat)(i:Nat):cg p (red p la i) (la.getD i 0:Nat):=cg.mod
theorem uW{i:Nat}(h:la.length≤i):red p la i=0:=by
 unfold red;rw [show la.getD i 0=0 by simp [h],Nat.zero_mod];rfl
theorem ye(h:Pln w tp t p L x back part D)(hD:D≤w.w.heap.size)(hT:Tn w t m now deep tab)(ha:Rd w a la)(hb:Rd w b lb)(hl:la.length≤2^(L+1))(hm:lb.length≤2^(L+1))(hlm:la.length+lb.length≤2^(L+1)+1):
  Ct Pg F.fw [.pointer tp,a.v,b.v] w (λk=>k=t) [.one .slice] λ(s:Sl) w'=>∃A' m',Ow w' w.w.heap.size s A'∧A'.length=2^(L+1)∧(∀i,i<2^(L+1)→A'.getD i 0=cv la lb i%p)∧Tn w' t m' now deep tab:=by
 refine Ct.fw ?_;unfold Sh.fw;have hp:=h.rng;have hL:=h.hL;have hN:(2:Nat)^(L+1)≤2^20:=Nat.pow_le_pow_right dcd hL;have T0:=hT.here;refine t1 hT.here.tz (qR h.here hD T0 ha.here hl) ?_;rintro s w1 e1 ⟨A,m1,hA,hAl,hAk,T1⟩;have hA:Ow w1 w.w.heap.size s A:=hA;have P1:=h.here.extT T0.tz e1;refine gW (qR P1 (Nat.le_trans hD e1.size) T1 (hb.here.extT T0.tz e1) hm) (λc hc=>by subst hc;exact T1.V) ?_;intro s' w2 x2 ⟨B,m2,hB,hBl,hBk,T2⟩;have P2:=P1.extT T1.tz x2;have hA2:=hA.extT T1.tz x2;have e2:Xt1 t w.here w2:=e1.trans x2;have ns:s.n=A.length:=hA2.rd.len;have sD:∀c,s.blk=some c→D≤c:=λc hc=>Nat.le_trans hD (hA2.blk_le c hc)
 have hne:∀c,s.blk=some c→¬s'.blk=some c:=λc hc h'=>by have:=(hA.from_ c hc).2;have:=(hB.from_ c h').1;omega
 refine j0 (λw'=>∃A',Ow w' w.w.heap.size s A'∧A'.length=2^(L+1)∧(∀i,i<2^(L+1)→A'.getD i 0=A.getD i 0*B.getD i 0%p)∧Ext (λk=>s.blk=some k) w2 w') ?_ ?_
 ·refine lp1 (λm (i:Int) w'=>∃(j:Nat) (C:List Nat),i=j∧m=2^(L+1)-j∧j≤2^(L+1)∧Ow w' w.w.heap.size s C∧C.length=2^(L+1)∧(∀i,i<2^(L+1)→C.getD i 0=if i<j then A.getD i 0*B.getD i 0%p else A.getD i 0)∧Ext (λk=>s.blk=some k) w2 w') (2^(L+1)) ⟨0,A,rfl,rfl,om,hA2,hAl,λi hi=>by rw [if_neg om],Ext.refl _ _⟩ ?_;rintro m i w3 ⟨j,C,rfl,rfl,hj,hC,hCl,hCk,e3⟩;refine ac (λhc=>?_) (λhc=>?_)
  ·have hj1:j<2^(L+1):=om;have P3:=P2.extD e3 sD;refine P3.md (λa1 mp _ hM=>?_) (Ext.refl _ _).drew;refine hC.drew.rd.ix rfl om ?_;refine (hB.rd.extX e3 λc hc h'=>hne c h' hc).drew.ix rfl om ?_;refine c1 (iu hM.drew) ?_;rintro r w4 e4 rfl;rw [hCk j hj1,if_neg om];have hml:=Nat.mod_lt (A.getD j 0*B.getD j 0) (show 0<p by omega);have hC4:=hC.drew.ext e4;refine hC4.store rfl om (by rw [w64];omega) rfl λw5 hC5 e5=>?_
   refine ab om om ⟨2^(L+1)-(j+1),om,j+1,_,om,rfl,om,hC5,by simp [hCl],λi hi=>?_,(e3.drew.trans e4.any).trans e5⟩;rw [nF om,hCk i hi];by_cases hij:i=j
   ·subst hij;rw [if_pos rfl,if_pos om]
   ·rw [if_neg hij];by_cases h2:i<j
    ·rw [if_pos h2,if_pos om]
    ·rw [if_neg h2,if_neg om]
  ·have:j=2^(L+1):=om;subst this;exact⟨C,hC,hCl,λi hi=>by rw [hCk i hi,if_pos hi],e3⟩
 rintro w3 ⟨C,hC,hCl,hCk,e3⟩;have P3:=P2.extD e3 sD;have nt:∀c,s.blk=some c→c≠t:=λc hc=>by have:=sD c hc;have:=h.tD;omega
 have T3:=T2.extX e3 λh'=>nt t h' rfl
 refine P3.mt (λa2=>?_) (Ext.refl _ _);refine gW (jw T3) (λc hc=>by subst hc;exact T3.V) ?_;intro r w4 e4 hpost;obtain⟨-,T4⟩:=hpost;have P4:=P3.extT T3.tz e4;have hC4:=hC.extT T3.tz e4;have e14:Xt1 t w.here w4:=(Ext.mineT e2 e3 λc hc=>.inr (hA2.blk_le c hc)).trans e4;refine t1 T4.tz (wx P4 (Nat.le_trans hD e14.size) T4 hC4.rd om) ?_;rintro s2 w5 e5 ⟨E,m5,hE,hEl,hEk,T5⟩;refine rt1 (c:=.slice) _ (e14.trans e5) ⟨E,m5,(hE.less e14.size).at,hEl,λi hi=>?_,T5.at⟩;obtain⟨g1,g2⟩:=hEk i hi;have hml:=Nat.mod_lt (cv la lb i) (show 0<p by omega);refine cg.nat (p:=p) (g2.trans ?_) om om;have hxc:=Pln.zc om h.hx
 have hbc:cg p ((x:Int)*back) 1:=by
  have:=(@cg.mod p (x*back)).symm;rw [h.hb] at this;simpa using this
 have hpc:cg p ((part:Int)*(2^(L+1):Nat)) 1:=by
  have:=(@cg.mod p (2^(L+1)*part)).symm;rw [h.hp] at this;refine (cg.of ?_).trans this;rw [Int.natCast_mul,Int.mul_comm]
 have key:=acQ hxc hbc hpc (red p la) (red p lb) (i:=i) om;rw [xT (n:=la.length) (m:=lb.length) (λu hu=>uW hu) (λv hv=>uW hv) hlm hi] at key
 have hT:cg p ((part:Int)*Tf (red p C) back (2^(L+1)) 0 1 i) ((part:Int)*Sg (2^(L+1)) λj=>(Tf (red p la) x (2^(L+1)) 0 1 j*Tf (red p lb) x (2^(L+1)) 0 1 j)*(back:Int)^(i*j)):=by
  refine cg.rfl'.mul ?_;unfold Tf;refine Sg.cg λk hk=>?_
  simp only [Nat.zero_add,Nat.mul_one];refine cg.mul ?_ cg.rfl';refine (uX p C k).trans ?_;rw [hCk k hk];refine cg.mod.trans ?_;rw [Int.natCast_mul];have h1:=(hAk k hk).2.mul (hBk k hk).2;simpa [Tf] using h1
 refine (hT.trans key).trans ?_;refine cg.trans ?_ cg.mod.symm;unfold cv;rw [qo];refine Sg.cg λu hu=>?_
 rw [Int.natCast_mul];exact (uX p la u).mul (uX p lb (i-u))
theorem aaY(h:Pln w tp t p L x back part D)(hD:D≤w.w.heap.size)(hT:Tn w t m now deep tab)(ha:Rd w a la)(hb:Rd w b lb)(hl0:la≠[])(hm0:lb≠[])(hlm:la.length+lb.length≤2^(L+1)+1):
  Ct Pg F.gq [.pointer tp,a.v,b.v] w (λk=>k=t) [.one .slice,.one .bool] λ(s:Sl)(ok:Bool) w'=>ok=true∧∃A' m',Ow w' w.w.heap.size s A'∧A'.length=la.length+lb.length-1∧(∀i,i<la.length+lb.length-1→A'.getD i 0=cv la lb i%p)∧Tn w' t m' now deep tab:=by
 refine Ct.gq ?_;unfold Sh.gq;have hL:=h.hL;have hN:(2:Nat)^(L+1)≤2^20:=Nat.pow_le_pow_right dcd hL;have na:=ha.len;have nb:=hb.len;have la0:=List.length_pos_iff.2 hl0;have lb0:=List.length_pos_iff.2 hm0;refine j1 (λ(r:Bool) w'=>r=false∧Ext aa w.here w') ?_ ?_
 ·refine ap (by simp;omega) (ap (by simp;omega) ?_);refine c1 (qZ h.here) ?_;rintro r w1 e1 rfl;refine ac (λhc=>om) (λ_=>?_);refine c1 (qZ (h.here.ext e1)) ?_;rintro r w2 e2 rfl;exact ab om om (ab om om ⟨decide_eq_false om,e1.trans e2⟩)
 rintro r w1 ⟨rfl,e1⟩;refine ap rfl ?_;have T1:=hT.here.ext e1;refine t1 T1.tz (ye (h.here.ext e1) (Nat.le_trans hD e1.size) T1 (ha.here.ext e1) (hb.here.ext e1) om om hlm) ?_;rintro s w2 e2 ⟨A,m2,hA,hAl,hAk,T2⟩;have hAc:=hA.rd.cap;refine ab om om (ab om om (j7 (l:=0) (h:=la.length+lb.length-1) rfl om (Nat.zero_le _) om ?_));have hc:=(hA.less e1.size).cut0 (n:=la.length+lb.length-1) om;refine rt2 (c:=.slice) (d:=.bool) _ _ (e1.any.trans e2) ⟨rfl,_,m2,Ow.at hc,by simp;omega,λi hi=>?_,T2.at⟩;rw [←hAk i om];simp [List.getD_eq_getElem?_getD,List.getElem?_take,hi]
end
end
end Go.Proofs.YtpbimnlggalnfaaGreatDoor.Zg
