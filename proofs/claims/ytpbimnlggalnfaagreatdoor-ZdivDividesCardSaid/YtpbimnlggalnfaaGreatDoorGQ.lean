/- A part of the proofs of this seat's laws. -/
import Derived.Test.YtpbimnlggalnfaaGreatDoorGK
import Derived.Test.YtpbimnlggalnfaaGreatDoorGP4
import Derived.Test.YtpbimnlggalnfaaGreatDoorGA
import Derived.Test.YtpbimnlggalnfaaGreatDoorGB
import Derived.Test.YtpbimnlggalnfaaGreatDoorGP
import Derived.Test.YtpbimnlggalnfaaGreatDoorGP1
import Derived.Test.YtpbimnlggalnfaaGreatDoorGC
import Derived.ProofKit
import Derived.OpenShut
set_option linter.unusedVariables false
set_option linter.unusedSimpArgs false
set_option linter.unnecessarySimpa false
namespace Go.Proofs.YtpbimnlggalnfaaGreatDoor.Zg
open Go.RowKit
section
variable {B j k x:Nat} {w w0:TW} {s:Sl} {l:List Nat} {K:Sl→TW→Prop} {c:Int} {a:Addr} {u:Value}
abbrev B32:Nat:=4294967296
theorem b32:B32=4294967296:=rfl
theorem b2:2≤B32:=dcd
theorem bw(h:x<B32):x<W64:=Nat.lt_trans h dcd
def Dn(w:TW)(B:Nat)(s:Sl)(x:Nat):Prop:=Ow w B s (dg B32 x)
def Dr(w:TW)(s:Sl)(x:Nat):Prop:=Rd w s (dg B32 x)
def dz(x:Nat):Nat:=(dg B32 x).length
theorem ja(x:Nat):(dg B32 x).length=dz x:=rfl
theorem tq{y:Nat}(h:x≤y):dz x≤dz y:=oO b2 h
theorem aah(h:x<B32^k):dz x≤k:=jD b2 h
theorem abV(x:Nat):x<B32^dz x:=oo b2 x
theorem aeb(x:Nat):dz x≤2*sz x:=by
 refine aah ?_;rw [Nat.pow_mul];exact gN x
theorem Dn.dr(h:Dn w B s x):Dr w s x:=Ow.rd h
theorem Dr.ext{w':TW}(h:Dr w s x)(hx:Ext aa w w'):Dr w' s x:=Rd.ext h hx
theorem Dr.here(h:Dr w s x):Dr w.here s x:=Rd.here h
theorem Dn.at(h:Dn w B s x):Dn (w.at k) B s x:=Ow.at h
theorem Dr.len(h:Dr w s x):s.n=dz x:=Rd.len h
theorem Dr.lt(_:Dr w s x)(j:Nat):(dg B32 x).getD j 0<4294967296:=(l8 b2 x).getD dcd j
theorem push(h:Ow w w0.w.heap.size s l)(e:Ext aa w0 w){y:Int}(hy:y=x)(hx:x<W64)(hn:l.length+1≤1099511627776)(hK:∀s' w',Ow w' w0.w.heap.size s' (l++[x])→Ext aa w0 w'→K s' w'):nwb w [.int .u64 y] T.an λb w'=>apd w' T.an 1 8 s ⟨some ⟨b,0,none⟩,1,1⟩ K:=by
 refine vk hy hx λb w1 h1 e1=>?_
 have h:=h.ext e1;refine h.cat h1.rd (Nat.le_trans e.size e1.size) (by simpa using hn) λs' w' h' e' _=>hK s' w' h' ((e.trans e1).own e' h.blk_le)
theorem Rd.add0(h:Rd w s l){x:Int}{d:Nat}(hx:x=j)(hc:c=d)(hlt:d+l.getD j 0<W64){K:Int→TW→Prop}(hK:K (d+l.getD j 0:Nat) w):
  Jn [.int .u64] (λJ=>cond (decide (x<(s.n:Int))) (ixa s x 1 λa=>ldc (.int .u64) w a λ(v:Int)=>bnd (wu (c+v)) λn=>J n w) (J c w)) K:=by
 refine zT ?_;have hl:=h.len;subst hx hc;refine ac (λh0=>?_) (λh0=>?_)
 ·exact h.ix rfl om (ai smp hlt hK)
 ·rw [jF om,Nat.add_zero] at hK;exact hK
theorem aaL(h:Rd w s l)(hs:Sm B32 l):Ct Pg F.bh [s.v] w aa [.one .slice] λ(s':Sl) _=>s'=s.cut 0 (dz (vl B32 l)) 1:=by
 refine Ct.bh ?_;unfold Sh.bh;have h:=h.here;have hl:=h.len;have hc:=h.cap;refine j1 (λ(k:Int) w'=>Ext aa w.here w'∧k=(dz (vl B32 l):Nat)) ?_ ?_
 ·refine lp1 (λm (k:Int) w'=>∃j:Nat,k=j∧m=j∧j≤l.length∧vl B32 (l.drop j)=0∧Ext aa w.here w') l.length ⟨l.length,by rw [hl],rfl,Nat.le_refl _,by simp [vl],Ext.refl _ _⟩ ?_;rintro m k w' ⟨j,rfl,rfl,hj,hz,hx⟩;refine j1 (λ(b:Bool) w''=>w''=w'∧b=decide (∃h:0<m,l[m-1]=0)) ?_ ?_
  ·refine ac (λh0=>?_) (λh0=>?_)
   ·refine ab om om ((h.ext hx).idx (j:=m-1) om om ⟨rfl,?_⟩);rw [Bool.eq_iff_iff];simp;exact⟨λh=>⟨om,h⟩,λ⟨_,h⟩=>h⟩
   ·exact⟨rfl,by simp;omega⟩
  ·rintro b w'' ⟨rfl,rfl⟩;refine ac (λh0=>?_) (λh0=>?_)
   ·obtain⟨h1,h2⟩:=h0;refine ab om om ⟨m-1,om,m-1,om,rfl,om,?_,hx⟩;have:=i4 B32 (l.drop (m-1)) 1 (by simp;omega);rw [List.drop_drop,show m-1+1=m by omega,hz] at this;rw [this,List.drop_eq_getElem_cons (by omega:m-1<l.length),List.take_succ_cons];simp [vl,h2]
   ·refine⟨hx,?_⟩;rw [dz,uh b2 hs hj hz (λh1 h2=>h0 ⟨h1,h2⟩)];simp [hj]
 ·rintro k w' ⟨hx,rfl⟩;have h1:dz (vl B32 l)≤l.length:=nJ b2 hs;exact j7 (l:=0) (h:=dz (vl B32 l)) rfl rfl (Nat.zero_le _) om (rt1 (c:=.slice) _ hx rfl)
theorem nm(h:Ow w B s l)(hs:Sm B32 l)(hK:∀s' w',Ext aa w w'→Dn w' B s' (vl B32 l)→K s' w'):cl Pg F.bh [s.v] w [.one .slice] K:=by
 refine c1 (aaL h.rd hs) ?_;rintro s' w' hx rfl;refine hK _ _ hx ?_;have:=(h.cut0 (n:=dz (vl B32 l)) (nJ b2 hs)).ext hx;rwa [dz,←(ol b2 hs).1] at this
theorem Sm.snoc{b:Nat}(h:Sm b l)(hx:x<b):Sm b (l++[x]):=h.append (Sm.cons hx (Sm.nil _))
theorem aa4{m:Nat}(hc:c=m)(hm:m≤17592186044416)(h:∀s w',Ow w' w.w.heap.size s []→Ext aa w w'→K s w'):mks w 0 c T.an 8 [.int .u64 0] K:=
 adk (n:=0) rfl hc (Nat.zero_le _) hm λ_ _ hf _ _ e _=>h _ _ (hf.cut0 (n:=0) (Nat.zero_le _)) e
theorem Rd.ixk(h:Rd w0 s l)(e:Ext aa w0 w){i:Int}(hi:i=j)(hj:j<l.length){K:Addr→Int→Prop}(hK:∀a,(∀w',Ext aa w0 w'→w'.w.cell? a=some (U (l.getD j 0)))→K a (l.getD j 0:Nat)):ixa s i 1 (λa=>ldc (.int .u64) w a (K a)):=by
 subst hi;have hne:l.map U≠[]:=λe=>by have:=congrArg List.length e;simp at this;subst this;simp at hj
 have hl:=h.len;obtain⟨b,o,hp,_,_⟩:=h.rv.2.2.2 hne
 have key:∀w',Ext aa w0 w'→w'.w.cell? ((⟨b,o,none⟩:Addr).add (j*1))=some (U (l.getD j 0)):=λw' e'=>by
  obtain⟨b',o',hp',_,hc⟩:=(h.ext e').rv.2.2.2 hne;rw [hp] at hp';injection hp' with hp';injection hp' with h1 h2;subst h1 h2;rw [Nat.mul_one,Addr.add_mk];exact hc j _ (by simp [hj])
 exact⟨⟨b,o,none⟩,hp,om,om,_,key w e,hK _ key⟩
theorem mJ{b:Addr}{v:Value}{K:Prop}(h1:w.w.cell? a=some u)(h2:w.w.cell? b=some v)(hK:K):hld w [(a,u),(b,v)] K:=⟨λy hy=>by
 simp only [List.mem_cons,List.not_mem_nil,or_false] at hy;rcases hy with rfl|rfl
 ·exact h1
 ·exact h2,hK⟩
theorem kG{K:Prop}(h1:w.w.cell? a=some u)(hK:K):hld w [(a,u)] K:=⟨λy hy=>by
 simp only [List.mem_cons,List.not_mem_nil,or_false] at hy;subst hy;exact h1,hK⟩
theorem aaM(hs:Nt w s x)(hn:s.n≤274877906944):Ct Pg F.cV [s.v] w aa [.one .slice] λ(s':Sl) w'=>Dn w' w.w.heap.size s' x:=by
 obtain⟨l,hs,rfl⟩:=hs;refine Ct.cV ?_;unfold Sh.cV;have hl:=hs.len;have hs:=hs.here;refine ab om om (aa4 (m:=2*s.n) om om λo w1 ho e1=>?_);refine j1 (λ(o:Sl) w2=>∃P,Ow w2 w.here.w.heap.size o P∧Sm B32 P∧vl B32 P=vl W64 l∧Ext aa w.here w2) ?_ ?_
 ·refine lp2 (λm (o:Sl) (i:Int) w2=>∃(j:Nat) (P:List Nat),i=j∧m=l.length-j∧j≤l.length∧P.length=2*j∧Ow w2 w.here.w.heap.size o P∧Sm B32 P∧vl B32 P=vl W64 (l.take j)∧Ext aa w.here w2) l.length ⟨0,[],rfl,om,om,rfl,ho,Sm.nil _,by simp [gw],e1⟩ ?_;rintro m o i w2 ⟨j,P,rfl,rfl,hj,hP,ho,hsm,hv,e2⟩;refine ac (λh0=>?_) (λh0=>?_)
  ·have hj1:j<l.length:=om;have hb:=hs.lt j;have hgo:=aj W64 l j;refine hs.ixk e2.drew rfl hj1 λa1 k1=>eP (x:=l.getD j 0) (y:=4294967296) rfl rfl dcd (hs.ixk e2.drew rfl hj1 λa2 k2=>j6 (x:=l.getD j 0) (y:=4294967296) rfl rfl hb dcd ?_)
   generalize l.getD j 0=v at*;have hm:v%4294967296<B32:=Nat.mod_lt _ dcd;have hd:v/4294967296<B32:=Nat.div_lt_of_lt_mul (by rw [b32];omega);refine acq (l:=[v%4294967296,v/4294967296]) 2 rfl (Sm.cons (bw hm) (Sm.cons (bw hd) (Sm.nil _))) dcd λb w3 h3 e3=>?_
   have e23:=e2.drew.trans e3;refine mJ (k2 _ e23) (k1 _ e23) ?_;have ho:=Ow.ext ho.drew e3;refine ho.cat h3.rd e23.size (by simp [hP];omega) λs1 w4 h4 e4 _=>?_
   have e4:=e23.own e4 ho.blk_le;refine mJ (k2 _ e4) (k1 _ e4) ?_;refine ab om om ⟨l.length-(j+1),om,j+1,_,om,rfl,hj1,by simp [hP];omega,h4,hsm.append (Sm.cons hm (Sm.cons hd (Sm.nil _))),?_,e4⟩;rw [dY,hP,hv,hgo,de,uL,show B32^(2*j)=W64^j by rw [Nat.pow_mul];rfl,b32,Nat.mod_add_div]
  ·have:j=l.length:=om;subst this;rw [List.take_of_length_le (Nat.le_refl _)] at hv;exact⟨P,ho,hsm,hv,e2⟩
 ·rintro o w2 ⟨P,ho,hsm,hv,e2⟩;refine nm ho hsm λs' w' e' h'=>rt1 (c:=.slice) _ (e2.trans e') ?_
  rw [hv] at h';exact h'.at
end
section
variable {w:TW} {s t:Sl} {x y:Nat}
theorem aci(hs:Dr w s x)(ht:Dr w t y)(hx:dz x≤274877906944)(hy:dz y≤274877906944):Ct Pg F.dF [s.v,t.v] w aa [.one .slice] λ(s':Sl) w'=>Dn w' w.w.heap.size s' (x+y):=by
 refine Ct.dF ?_;unfold Sh.dF;have ls:=hs.len;have lt:=ht.len;have hs:=hs.here;have ht:=ht.here;obtain⟨n,hn⟩:∃n,n=max (dz x) (dz y):=⟨_,rfl⟩;refine fV (ab (by split<;>omega) (by split<;>omega) (aa4 (m:=n+1) (by split<;>omega) om λo w1 ho e1=>?_));refine j1 (λ(o:Sl) w2=>∃P,Ow w2 w.here.w.heap.size o P∧Sm B32 P∧vl B32 P=x+y∧Ext aa w.here w2) ?_ ?_
 ·refine lp3 (λm (o:Sl) (c i:Int) w2=>∃(j d:Nat) (P:List Nat),c=d∧i=j∧m=2*(n-j)+d∧j≤n+1∧d≤1∧P.length=j∧Ow w2 w.here.w.heap.size o P∧Sm B32 P∧vl B32 P+B32^j*d=vl B32 ((dg B32 x).take j)+vl B32 ((dg B32 y).take j)∧Ext aa w.here w2∧(j=n+1→d=0)) (2*n) ⟨0,0,[],rfl,rfl,om,om,om,rfl,ho,Sm.nil _,rfl,e1,λh=>by omega⟩ ?_;rintro m o c i w2 ⟨j,d,P,rfl,rfl,rfl,hj,hd,hP,ho,hsm,hv,e2,hend⟩;refine j1 (λ(b:Bool) w3=>w3=w2∧b=decide (j<n∨0<d)) ?_ ?_
  ·refine ac (λh=>⟨rfl,?_⟩) (λh=>ac (λh2=>⟨rfl,?_⟩) (λh2=>⟨rfl,?_⟩))
   ·rw [eq_comm,decide_eq_true_iff];left;omega
   ·rw [eq_comm,decide_eq_true_iff];left;omega
   ·rw [Bool.eq_iff_iff,decide_eq_true_iff,decide_eq_true_iff];omega
  rintro b w3 ⟨rfl,rfl⟩;refine ac (λh=>?_) (λh=>?_)
  ·have ha:=hs.lt j;have hb:=ht.lt j;have ga:=aj B32 (dg B32 x) j;have gb:=aj B32 (dg B32 y) j;refine (hs.ext e2).add0 rfl rfl (by rw [w64];omega) ((ht.ext e2).add0 rfl rfl (by rw [w64];omega) ?_);have hpast:n≤j→(dg B32 x).getD j 0=0∧(dg B32 y).getD j 0=0:=λh=>⟨jF (by rw [ja];omega),jF (by rw [ja];omega)⟩
   generalize (dg B32 x).getD j 0=a at*;generalize (dg B32 y).getD j 0=b at*;refine eP (x:=d+a+b) (y:=4294967296) rfl rfl dcd ?_;have hm:(d+a+b)%4294967296<B32:=Nat.mod_lt _ dcd;refine push ho e2 rfl (bw hm) om λo' w4 ho' e4=>?_
   refine j6 (x:=d+a+b) (y:=4294967296) rfl rfl (by rw [w64];omega) dcd ?_
   have hm2:2*(n-(j+1))+(d+a+b)/4294967296<2*(n-j)+d:=by
    rcases Nat.lt_or_ge j n with h|h
    ·omega
    ·obtain⟨h1,h2⟩:=hpast h;omega
   refine ab om om ⟨_,hm2,j+1,_,_,rfl,om,rfl,om,om,by simp [hP],ho',hsm.snoc hm,?_,e4,λh5=>?_⟩
   ·have hdm:=Nat.mod_add_div (d+a+b) 4294967296;rw [gG,hP,Nat.pow_succ,ga,gb];generalize (d+a+b)%4294967296=s1 at*;generalize (d+a+b)/4294967296=c1 at*;have e2:B32^j*s1+B32^j*B32*c1=B32^j*(d+a+b):=by rw [←hdm];grind
    grind
   ·obtain⟨h1,h2⟩:=hpast om;omega
  ·refine⟨P,ho,hsm,?_,e2⟩;have:d=0:=om;subst this;rw [aJ (l:=dg B32 x) (by rw [ja];omega),aJ (l:=dg B32 y) (by rw [ja];omega),aV b2,aV b2] at hv;simpa using hv
 ·rintro o w2 ⟨P,ho,hsm,hv,e2⟩;refine nm ho hsm λs' w' e' h'=>rt1 (c:=.slice) _ (e2.trans e') ?_
  rw [hv] at h';exact h'.at
theorem xb(hs:Dr w s x)(ht:Dr w t y)(hx:dz x≤274877906944)(hle:y≤x):Ct Pg F.cE [s.v,t.v] w aa [.one .slice] λ(s':Sl) w'=>Dn w' w.w.heap.size s' (x-y):=by
 refine Ct.cE ?_;unfold Sh.cE;have ls:=hs.len;have lt:=ht.len;have hs:=hs.here;have ht:=ht.here;have hyx:=tq hle;refine aa4 (m:=dz x) om om λo w1 ho e1=>?_
 refine j1 (λ(o:Sl) w2=>∃P,Ow w2 w.here.w.heap.size o P∧Sm B32 P∧vl B32 P=x-y∧Ext aa w.here w2) ?_ ?_
 ·refine lp3 (λm (o:Sl) (c i:Int) w2=>∃(j d:Nat) (P:List Nat),c=d∧i=j∧m=dz x-j∧j≤dz x∧d≤1∧P.length=j∧Ow w2 w.here.w.heap.size o P∧Sm B32 P∧vl B32 P+vl B32 ((dg B32 y).take j)=vl B32 ((dg B32 x).take j)+B32^j*d∧Ext aa w.here w2) (dz x) ⟨0,0,[],rfl,rfl,om,om,om,rfl,ho,Sm.nil _,rfl,e1⟩ ?_;rintro m o c i w2 ⟨j,d,P,rfl,rfl,rfl,hj,hd,hP,ho,hsm,hv,e2⟩;refine ac (λh=>?_) (λh=>?_)
  ·have ha:=hs.lt j;have hb:=ht.lt j;have ga:=aj B32 (dg B32 x) j;have gb:=aj B32 (dg B32 y) j;have hj1:j<(dg B32 x).length:=by rw [ja];omega
   refine (ht.ext e2).add0 rfl rfl (by rw [w64];omega) ?_;refine (hs.ext e2).ix rfl hj1 ?_;refine j2 (λ(o':Sl)(c':Int) w4=>∃z d':Nat,c'=d'∧d'≤1∧z<B32∧z+(dg B32 y).getD j 0+d=(dg B32 x).getD j 0+B32*d'∧Ow w4 w.here.w.heap.size o' (P++[z])∧Ext aa w.here w4) ?_ ?_
   ·refine ac (λh1=>?_) (λh1=>?_)
    ·refine (hs.ext e2).ix rfl hj1 ?_;generalize (dg B32 x).getD j 0=a at*;generalize (dg B32 y).getD j 0=b at*;refine ai (y:=a-(d+b)) om (by rw [w64];omega) ?_;exact push ho e2 rfl (by rw [w64];omega) om λo' w4 ho' e4=>⟨a-(d+b),0,rfl,om,by rw [b32];omega,om,ho',e4⟩
    ·refine (hs.ext e2).ix rfl hj1 ?_;generalize (dg B32 x).getD j 0=a at*;generalize (dg B32 y).getD j 0=b at*;refine ai (y:=a+4294967296) smp (by rw [w64];omega) (ai (y:=a+4294967296-(d+b)) om (by rw [w64];omega) ?_);exact push ho e2 rfl (by rw [w64];omega) om λo' w4 ho' e4=>⟨a+4294967296-(d+b),1,rfl,om,by rw [b32];omega,by rw [b32];omega,ho',e4⟩
   rintro o' c' w4 ⟨z,d',rfl,hd',hz,he,ho',e4⟩;refine ab om om ⟨dz x-(j+1),om,j+1,_,_,rfl,om,rfl,om,hd',by simp [hP],ho',hsm.snoc hz,?_,e4⟩;rw [gG,hP,Nat.pow_succ,ga,gb];generalize (dg B32 x).getD j 0=a at*;generalize (dg B32 y).getD j 0=b at*
   have:B32^j*z+B32^j*b+B32^j*d=B32^j*a+B32^j*B32*d':=by
    have:=congrArg (B32^j*·) he;simp only [Nat.mul_add] at this;rw [Nat.mul_assoc];exact this
   omega
  ·have hj:j=dz x:=om;subst hj;rw [aJ (l:=dg B32 x) (by rw [ja];exact Nat.le_refl _),aJ (l:=dg B32 y) (by rw [ja];exact hyx),aV b2,aV b2] at hv;refine⟨P,ho,hsm,?_,e2⟩;have h1:=jQ hsm;rw [hP] at h1
   have:d=0:=by
    rcases Nat.eq_zero_or_pos d with h|h
    ·exact h
    ·have:d=1:=om;subst this;omega
   subst this;omega
 ·rintro o w2 ⟨P,ho,hsm,hv,e2⟩;refine nm ho hsm λs' w' e' h'=>rt1 (c:=.slice) _ (e2.trans e') ?_
  rw [hv] at h';exact h'.at
theorem ach(hs:Dr w s x)(ht:Dr w t y):Ct Pg F.dE [s.v,t.v] w aa [.one (.int .i64)] λ(r:Int) _=>r=ij x y:=by
 refine Ct.dE ?_;unfold Sh.dE;have ls:=hs.len;have lt:=ht.len;have hle:=Rd.le hs;rw [ja] at hle;refine aG (λh0=>?_) (λh0=>?_)
 ·have h0:dz x≠dz y:=by intro h;simp [ls,lt,h] at h0
  refine ac (λh1=>?_) (λh1=>?_)
  ·refine rt1 (c:=.int .i64) _ (Ext.refl _ _) ?_;rw [ij,if_pos];exact Nat.lt_of_not_le λh=>by have:=tq h;omega
  ·refine rt1 (c:=.int .i64) _ (Ext.refl _ _) ?_;have:¬x≤y:=λh=>by have:=tq h;omega
   rw [ij,if_neg om,if_neg om]
 ·have h0:dz x=dz y:=by simp at h0;omega
  have hlx:=ja x;have hly:=ja y;refine ab om om ?_;refine j0 (λw'=>Ext aa w.here w'∧x=y) ?_ ?_
  ·refine lp1 (λk (i:Int) w'=>∃j:Nat,i=j-1∧k=j∧j≤dz x∧vl B32 ((dg B32 x).drop j)=vl B32 ((dg B32 y).drop j)∧Ext aa w.here w') (dz x) ⟨dz x,om,rfl,Nat.le_refl _,?_,Ext.refl _ _⟩ ?_
   ·rw [List.drop_of_length_le om,List.drop_of_length_le om]
   ·rintro k i w' ⟨j,rfl,rfl,hj,he,hx⟩;refine ac (λh1=>?_) (λh1=>?_)
    ·have hs1:=(Rd.ext hs.here hx).drew;have ht1:=(Rd.ext ht.here hx).drew;have e1:(k:Int)-1=(k-1:Nat):=om;have hk:k-1<(dg B32 x).length:=om;have hk2:k-1<(dg B32 y).length:=om;refine hs1.idx e1 hk (ht1.idx e1 hk2 ?_);refine ac (λh2=>?_) (λh2=>?_)
     ·refine rt1 (c:=.int .i64) _ hx.drew ?_;have:=lw (l8 b2 x) hk hk2 om (by rw [show k-1+1=k by omega,he];exact Nat.le_refl _);rw [aV b2,aV b2] at this;rw [ij,if_pos this]
     ·refine hs1.drew.idx e1 hk (ht1.drew.idx e1 hk2 ?_);refine ac (λh3=>?_) (λh3=>?_)
      ·refine rt1 (c:=.int .i64) _ hx.drew.drew ?_;have:=lw (l8 b2 y) hk2 hk om (by rw [show k-1+1=k by omega,he];exact Nat.le_refl _);rw [aV b2,aV b2] at this;rw [ij,if_neg om,if_neg om]
      ·refine ab om om ⟨k-1,om,k-1,om,rfl,om,?_,hx.drew.drew⟩;rw [List.drop_eq_getElem_cons hk,List.drop_eq_getElem_cons hk2,show k-1+1=k by omega,de,de,he];omega
    ·refine⟨hx,?_⟩;have:k=0:=om;subst this;rw [List.drop_zero,List.drop_zero,aV b2,aV b2] at he;exact he
  ·rintro w' ⟨hx,he⟩;refine rt1 (c:=.int .i64) _ hx ?_;rw [ij,if_neg om,if_pos he]
end
theorem adU{l:List Nat}{j:Nat}:vl B32 (l.take (2*(j+1)))=vl B32 (l.take (2*j))+W64^j*(l.getD (2*j) 0+l.getD (2*j+1) 0*B32):=by
 rw [show 2*(j+1)=2*j+1+1 by omega,aj,aj,Nat.pow_succ,show B32^(2*j)=W64^j by rw [Nat.pow_mul];rfl];grind
theorem ac6{w:TW}{s:Sl}{x:Nat}(hs:Dr w s x)(hx:dz x≤274877906944):Ct Pg F.ek [s.v] w aa [.one .slice] λ(s':Sl) w'=>On w' w.w.heap.size s' x:=by
 refine Ct.ek ?_;unfold Sh.ek;have ls:=hs.len;have hs:=hs.here;refine j1 (λ(o:Sl) w2=>∃P,Ow w2 w.here.w.heap.size o P∧vl W64 P=x∧Ext aa w.here w2) ?_ ?_
 ·refine lp2 (λm (o:Sl) (i:Int) w2=>∃(j:Nat) (P:List Nat),i=(2*j:Nat)∧m=dz x+1-2*j∧2*j≤dz x+1∧P.length=j∧Ow w2 w.here.w.heap.size o P∧vl W64 P=vl B32 ((dg B32 x).take (2*j))∧Ext aa w.here w2) (dz x+1) ⟨0,[],rfl,om,om,rfl,Ow.nil _ _,by simp [gw],Ext.refl _ _⟩ ?_;rintro m o i w2 ⟨j,P,rfl,rfl,hj,hP,ho,hv,e2⟩;refine ac (λh=>?_) (λh=>?_)
  ·have ha:=hs.lt (2*j);have hb:=hs.lt (2*j+1);have hgo:=adU (l:=dg B32 x) (j:=j);have hj1:2*j<(dg B32 x).length:=by rw [ja];omega
   refine (Rd.ext hs e2).ix rfl hj1 (ab om om ?_);refine j1 (λ(y:Int) w3=>w3=w2∧y=((dg B32 x).getD (2*j) 0+(dg B32 x).getD (2*j+1) 0*B32:Nat)) ?_ ?_
   ·refine ac (λh1=>?_) (λh1=>?_)
    ·refine ab om om ((Rd.ext hs e2).ix (j:=2*j+1) om (by rw [ja];omega) ?_);generalize (dg B32 x).getD (2*j) 0=a at*;generalize (dg B32 x).getD (2*j+1) 0=b at*;exact ai (y:=b*B32) smp (by rw [w64,b32];omega) (ai (y:=a+b*B32) smp (by rw [w64,b32];omega) ⟨rfl,rfl⟩)
    ·rw [jF (l:=dg B32 x) (k:=2*j+1) (by rw [ja];omega)];exact⟨rfl,smp⟩
   rintro y w3 ⟨rfl,rfl⟩;generalize (dg B32 x).getD (2*j) 0=a at*;generalize (dg B32 x).getD (2*j+1) 0=b at*;refine push ho e2 rfl (by rw [w64,b32];omega) om λo' w4 ho' e4=>?_
   refine ab om om ⟨dz x+1-2*(j+1),om,j+1,_,om,rfl,om,by simp [hP],ho',?_,e4⟩;rw [gG,hP,hgo,hv]
  ·refine⟨P,ho,?_,e2⟩;rw [hv,aJ (l:=dg B32 x) (by rw [ja];omega),aV b2]
 ·rintro o w2 ⟨P,ho,hv,e2⟩;refine j1 (λ(o:Sl) w3=>On w3 w.here.w.heap.size o x∧Ext aa w.here w3) ?_ ?_
  ·refine lp1 (λm (o:Sl) w3=>∃P,m=P.length∧Ow w3 w.here.w.heap.size o P∧vl W64 P=x∧Ext aa w.here w3) P.length ⟨P,rfl,ho,hv,e2⟩ ?_;clear ho hv e2 P;rintro m o w3 ⟨P,rfl,ho,hv,e3⟩;have lo:=ho.rd.len;have hcap:=ho.rd.cap;refine j1 (λ(b:Bool) w4=>w4=w3∧b=decide (∃h:0<P.length,P[P.length-1]=0)) ?_ ?_
   ·refine ac (λh0=>?_) (λh0=>?_)
    ·refine ab om om (ho.rd.idx (j:=P.length-1) om om ⟨rfl,?_⟩);rw [Bool.eq_iff_iff];simp;exact⟨λh=>⟨om,h⟩,λ⟨_,h⟩=>h⟩
    ·exact⟨rfl,by simp;omega⟩
   rintro b w4 ⟨rfl,rfl⟩;refine ac (λh=>?_) (λh=>?_)
   ·obtain⟨h1,h2⟩:=h;refine ab om om (j7 (l:=0) (h:=P.length-1) rfl om (Nat.zero_le _) om ?_);refine⟨P.length-1,om,P.take (P.length-1),smp,ho.cut0 om,?_,e3⟩;rw [←hv];have:=lq (b:=W64) (l:=P) (k:=P.length-1) om;rw [show P.length-1+1=P.length by omega,List.take_of_length_le (Nat.le_refl _),h2,Nat.mul_zero,Nat.add_zero] at this;exact this.symm
   ·refine⟨?_,e3⟩;have:dg W64 (vl W64 P)=P:=pC W2 ho.sm λy hy h0=>h ?_
    ·rw [On,←hv,this];exact ho
    ·rw [List.getLast?_eq_getElem?] at hy;obtain⟨h1,h2⟩:=List.getElem?_eq_some_iff.1 hy;exact⟨om,by rw [h2];exact h0⟩
  ·rintro o w3 ⟨ho,e3⟩;exact rt1 (c:=.slice) _ e3 ho.at
section
variable {x:Nat} {w w':TW} {s:Sl} {ls:List (List Nat)}
theorem wy{p M L L' v a b c s1 c' A Q:Nat}(h1:s1+M*c'=v+a*b+c)(hL:L'+p*v=L+p*s1)(hi:L+p*c=A+Q*a):L'+p*M*c'=A+(Q+p*b)*a:=by
 have:p*s1+p*(M*c')=p*v+p*(a*b)+p*c:=by rw [←Nat.mul_add,h1];grind
 grind
theorem getD_set_ne{l:List Nat}{i k:Nat}(h:i≠k):(l.set i x).getD k 0=l.getD k 0:=by simp [h]
theorem acg{t:Sl}{y:Nat}(hs:Dr w s x)(ht:Dr w t y)(hx:dz x≤274877906944)(hy:dz y≤274877906944):Ct Pg F.dD [s.v,t.v] w aa [.one .slice] λ(s':Sl) w'=>Dn w' w.w.heap.size s' (x*y):=by
 refine Ct.dD ?_;unfold Sh.dD;have ls:=hs.len;have lt:=ht.len;have hs:=hs.here;have ht:=ht.here;refine ab om om (bW (N:=dz x+dz y) om om λo w1 ho _ e1 _=>?_);refine j0 (λw2=>∃P,Ow w2 w.here.w.heap.size o P∧Sm B32 P∧vl B32 P=x*y∧Ext aa w.here w2) ?_ ?_
 ·refine lp1 (λm (i:Int) w2=>∃(j:Nat) (P:List Nat),i=j∧m=dz x-j∧j≤dz x∧P.length=dz x+dz y∧Ow w2 w.here.w.heap.size o P∧Sm B32 P∧vl B32 P=vl B32 ((dg B32 x).take j)*y∧(∀k,j+dz y≤k→P.getD k 0=0)∧Ext aa w.here w2) (dz x) ⟨0,_,rfl,om,om,smp,ho,Sm.zeros dcd _,by rw [jP];simp [gw],λk _=>by simp [List.getElem?_replicate];split<;>rfl,e1⟩ ?_;rintro m i w2 ⟨j,P,rfl,rfl,hj,hP,ho,hsm,hv,hz,e2⟩;refine ac (λh=>?_) (λh=>?_)
  ·have ha:=hs.lt j;have hgo:=aj B32 (dg B32 x) j;have hj1:j<(dg B32 x).length:=by rw [ja];omega
   refine j1 (λ(c:Int) w3=>∃(P:List Nat) (d:Nat),c=d∧d<B32∧P.length=dz x+dz y∧Ow w3 w.here.w.heap.size o P∧Sm B32 P∧vl B32 P+B32^(j+dz y)*d=vl B32 ((dg B32 x).take (j+1))*y∧(∀k,j+dz y≤k→P.getD k 0=0)∧Ext aa w.here w3) ?_ ?_
   ·refine lp2 (λm (c i:Int) w3=>∃(q d:Nat) (P:List Nat),c=d∧i=q∧m=dz y-q∧q≤dz y∧d<B32∧P.length=dz x+dz y∧Ow w3 w.here.w.heap.size o P∧Sm B32 P∧vl B32 P+B32^(j+q)*d=vl B32 ((dg B32 x).take j)*y+B32^j*vl B32 ((dg B32 y).take q)*(dg B32 x).getD j 0∧(∀k,j+dz y≤k→P.getD k 0=0)∧Ext aa w.here w3) (dz y) ⟨0,0,P,rfl,rfl,om,om,dcd,hP,ho,hsm,by rw [hv];simp [gw],hz,e2⟩ ?_;clear ho hsm hv hz e2 hP P;rintro m c i w3 ⟨q,d,P,rfl,rfl,rfl,hq,hd,hP,ho,hsm,hv,hz,e3⟩;refine ac (λh1=>?_) (λh1=>?_)
    ·have hb:=ht.lt q;have hgb:=aj B32 (dg B32 y) q;have hjq:j+q<P.length:=om;have hpv:=hsm.getD dcd (j+q);refine ab om om (ho.rd.drew.ix (j:=j+q) om hjq ?_);refine (Rd.ext hs e3).drew.ix rfl hj1 ((Rd.ext ht e3).drew.ix rfl (by rw [ja];omega) ?_);have hset:=lu (b:=B32) hjq;rw [show P[j+q]=P.getD (j+q) 0 by simp [hjq]] at hset;generalize P.getD (j+q) 0=v at*;generalize (dg B32 x).getD j 0=a at*;generalize (dg B32 y).getD q 0=b at*;rw [b32] at hd hpv;have hab:a*b≤4294967295*4294967295:=Nat.mul_le_mul om om;refine ai (y:=a*b) smp (by rw [w64];omega) (ai (y:=v+a*b) smp (by rw [w64];omega) (ai (y:=v+a*b+d) smp (by rw [w64];omega) (ab om om ?_)));refine eP (x:=v+a*b+d) (y:=4294967296) rfl rfl dcd ?_;have hm:(v+a*b+d)%4294967296<B32:=Nat.mod_lt _ dcd;refine ho.drew.store (j:=j+q) om hjq (bw hm) rfl λw4 ho4 e4=>?_
     refine j6 (x:=v+a*b+d) (y:=4294967296) rfl rfl (by rw [w64];omega) dcd ?_;refine ab om om ⟨dz y-(q+1),om,q+1,_,_,rfl,om,rfl,om,by rw [b32];omega,by simp [hP],ho4,hsm.set _ hm,?_,λk hk=>?_,e3.drew.own e4 ho.blk_le⟩
     ·have hdm:=Nat.mod_add_div (v+a*b+d) 4294967296;have hset:=hset ((v+a*b+d)%4294967296);rw [←Nat.add_assoc,Nat.pow_succ,hgb,Nat.mul_add,←Nat.mul_assoc,←Nat.pow_add];exact wy hdm hset hv
     ·exact (getD_set_ne om).trans (hz k hk)
    ·have:q=dz y:=om;subst this;refine⟨P,d,rfl,hd,hP,ho,hsm,?_,hz,e3⟩;rw [aJ (l:=dg B32 y) (by rw [ja];exact Nat.le_refl _),aV b2] at hv;rw [hv,hgo];grind
   ·clear ho hsm hv hz e2 hP P;rintro c w3 ⟨P,d,rfl,hd,hP,ho,hsm,hv,hz,e3⟩;have hjq:j+dz y<P.length:=om;refine ab om om (ho.store (j:=j+dz y) om hjq (bw hd) rfl λw4 ho4 e4=>?_);refine ab om om ⟨dz x-(j+1),om,j+1,_,om,rfl,om,by simp [hP],ho4,hsm.set _ hd,?_,λk hk=>?_,e3.own e4 ho.blk_le⟩
    ·have hset:=lu (b:=B32) hjq d;have h0:=hz _ (Nat.le_refl _);rw [show P[j+dz y]=P.getD (j+dz y) 0 by simp [hjq],h0,Nat.mul_zero,Nat.add_zero] at hset;rw [hset,hv]
    ·exact (getD_set_ne om).trans (hz k om)
  ·have:j=dz x:=om;subst this;rw [aJ (l:=dg B32 x) (by rw [ja];exact Nat.le_refl _),aV b2] at hv;exact⟨P,ho,hsm,hv,e2⟩
 ·rintro w2 ⟨P,ho,hsm,hv,e2⟩;refine nm ho hsm λs' w' e' h'=>rt1 (c:=.slice) _ (e2.trans e') ?_
  rw [hv] at h';exact h'.at
def Rl(w:TW)(s:Sl)(ls:List (List Nat)):Prop:=∃ss:List Sl,Rdv w 1 s (ss.map Sl.v)∧ss.length=ls.length∧∀i t,ss[i]?=some t→Rd w t (ls.getD i [])
theorem Rl.rs(h:Rl w s ls):Rs w s (ls.map (vl W64)):=by
 obtain⟨ss,h1,h2,h3⟩:=h;refine⟨ss,h1,by simpa using h2,λi t ht=>⟨_,h3 i t ht,?_⟩⟩
 have:i<ls.length:=by
  have:=(List.getElem?_eq_some_iff.1 ht).1;omega
 simp [this]
theorem Rl.len(h:Rl w s ls):s.n=ls.length:=by have:=h.rs.len;simpa using this
theorem Rl.here(h:Rl w s ls):Rl w.here s ls:=h.imp λ_ h=>⟨h.1,h.2.1,λi t ht=>(h.2.2 i t ht).here⟩
theorem Rl.ext(h:Rl w s ls)(hx:Ext aa w w'):Rl w' s ls:=h.imp λ_ h=>⟨h.1.ext hx λ_ _ h=>h,h.2.1,λi t ht=>(h.2.2 i t ht).ext hx⟩
theorem Rl.idx(h:Rl w s ls)(hx:Ext aa w w'){i:Int}{j:Nat}(hi:i=j)(hj:j<ls.length){K:Addr→Sl→Prop}(hK:∀a t,(∀w'',Ext aa w w''→w''.w.cell? a=some t.v)→Rd w t (ls.getD j [])→K a t):ixa s i 1 (λa=>ldc .slice w' a (K a)):=by
 subst hi;have hl:=h.len;obtain⟨ss,h0,h5,h6⟩:=h;have hjs:j<ss.length:=om;have hne:ss.map Sl.v≠[]:=λe=>by have:=congrArg List.length e;simp at this;subst this;simp at hjs
 obtain⟨b,o,hp,_,hc⟩:=h0.2.2.2 hne
 have key:∀w'',Ext aa w w''→w''.w.cell? ((⟨b,o,none⟩:Addr).add (j*1))=some (ss[j].v):=λw'' e'=>by
  obtain⟨b',o',hp',_,hc⟩:=(h0.ext e' λ_ _ h=>h).2.2.2 hne;rw [hp] at hp';injection hp' with hp';injection hp' with h1 h2;subst h1 h2;rw [Nat.mul_one,Addr.add_mk];exact hc j _ (by simp [hjs])
 exact⟨⟨b,o,none⟩,hp,om,om,ss[j],key w' hx,hK _ _ key (h6 j _ (by simp [hjs]))⟩
theorem adA(x y:Nat):dz (x*y)≤dz x+dz y:=by
 refine aah ?_;rw [Nat.pow_add];exact Nat.mul_lt_mul'' (abV x) (abV y)
end
theorem xz{b:Nat}(hb:2≤b)(x:Nat):∀k,(dg b x).getD k 0=x/b^k%b:=by
 intro k;induction k generalizing x with
 | zero=>
  rcases Nat.eq_zero_or_pos x with h|h
  ·subst h;simp [az]
  ·rw [ke hb h];simp
 | succ k ih=>
  rcases Nat.eq_zero_or_pos x with h|h
  ·subst h;simp [az]
  ·rw [ke hb h];have:=ih (x/b);rw [Nat.div_div_eq_div_mul,Nat.mul_comm b,←Nat.pow_succ] at this;simpa using this
theorem Own.nil(w:TW)(B:Nat)(e:TypeId):Own w B e 1 Sl.nil (([]:List Sl).map Sl.v):=⟨⟨rfl,.inl ⟨rfl,rfl⟩⟩,λb h=>by simp [Sl.blk] at h⟩
section
variable {x:Nat}
def Arg(w:TW)(s:Sl):Prop:=∃l,Rd w s l
theorem py{k:Nat}(h:sz x≤k):dz x≤2*k:=Nat.le_trans (aeb x) (Nat.mul_le_mul_left _ h)
theorem adI{y:Nat}:decide (ij x y≥0)=decide (y≤x):=by
 rw [Bool.eq_iff_iff,decide_eq_true_iff,decide_eq_true_iff];have:=@ef x y;omega
def aeF(w:TW)(s:Sl):Prop:=∃ls,Rl w s ls
theorem Ow.extB{w w':TW}{X:Nat→Prop}{B:Nat}{s:Sl}{l:List Nat}(h:Ow w B s l)(hx:Ext X w w')(hX:∀b,X b→b<B):Ow w' B s l:=
 h.extX hx λc hc h'=>by have:=h.blk_le c hc;have:=hX c h';omega
end
section
variable {W:World} {n:Int} {zs:List Int}
def TW.of(W:World):TW:=⟨W,λ_=>False,W.heap.size,λ_ h=>h.elim⟩
theorem aeM{P:Program}{f:FuncId}{args:List Value}(h:Ct P f args (TW.of W) aa [.one .bool] λ(r:Bool) _=>r=true):Calls P f args.toArray W λe w'=>e=.returned (.bool true)∧Below W.heap.size W w':=by
 refine Calls.mono h ?_;rintro e w' ⟨⟨r,_⟩,T',rfl,rfl,hx,hr⟩;have hr:r=true:=hr;subst hr;exact⟨rfl,hx.os,hx.tape,hx.output,hx.size,λk hk=>hx.block k hk (λh=>h) (.inl hk)⟩
def ou(k:IntKind)(w:World)(a:Option Addr)(len cap:Nat)(zs:List Int):Prop:=
 (a=none∧len=0∧cap=0∧zs=[])∨
 ∃x,a=some x∧len≤cap∧cap≤maxLen∧zs.length=cap∧(∀i,i<zs.length→w.cell? (x.add i)=some (.int k (zs.getD i 0)))∧∀n∈zs,(Lit.int k n).wf=true
theorem acY(h:(Lit.int .u64 n).wf=true):∃m:Nat,n=m∧m<W64:=by
 simp only [Lit.wf,Bool.and_eq_true,decide_eq_true_eq] at h;have h1:IntKind.u64.min=0:=dcd;have h2:IntKind.u64.max=18446744073709551615:=dcd;rw [h1,h2] at h;exact⟨n.toNat,om,by rw [w64];omega⟩
theorem aeN(h:(Lit.int .i64 n).wf=true):-9223372036854775808≤n∧n≤9223372036854775807:=by
 simp only [Lit.wf,Bool.and_eq_true,decide_eq_true_eq] at h;have h1:IntKind.i64.min=-9223372036854775808:=dcd;have h2:IntKind.i64.max=9223372036854775807:=dcd;rwa [h1,h2] at h
theorem ab2(h:∀n∈zs,(Lit.int .u64 n).wf=true):∃l:List Nat,zs=l.map Int.ofNat∧Sm W64 l:=by
 induction zs with
 | nil=>exact⟨[],rfl,Sm.nil _⟩
 | cons z zs ih=>
  obtain⟨l,h1,h2⟩:=ih λn hn=>h n (List.mem_cons_of_mem _ hn)
  obtain⟨m,h3,h4⟩:=acY (h z (List.mem_cons_self ..));exact⟨m::l,by simp [h1,h3],Sm.cons h4 h2⟩
theorem qi{w:World}{a:Addr}{v:Value}(h:w.cell? a=some v):a.spot=none:=by
 unfold World.cell? at h;split at h
 ·split at h
  ·cases h
  ·rename_i hs;simpa using hs
 ·cases h
theorem aax{a:Option Addr}{len cap:Nat}(h:ou .u64 W a len cap zs):Arg (TW.of W) ⟨a,len,cap⟩:=by
 rcases h with ⟨rfl,rfl,rfl,rfl⟩|⟨x,rfl,hl,hc,hz,hcell,hwf⟩
 ·exact⟨[],Rd.nil _⟩
 ·obtain⟨l,rfl,hs⟩:=ab2 hwf;have hll:l.length=cap:=by simpa using hz
  refine⟨l.take len,⟨by simp;omega,hl,hc,λhne=>?_⟩,hs.take _⟩
  have hpos:0<len:=by
   rcases Nat.eq_zero_or_pos len with h|h
   ·subst h;exact absurd smp hne
   ·exact h
  have h0:=hcell 0 (by simp;omega);have hspot:=qi h0;obtain⟨b,o,sp⟩:=x;rw [show (Addr.add ⟨b,o,sp⟩ 0)=⟨b,o,sp⟩ by rfl] at hspot;simp only at hspot;subst hspot;refine⟨b,o,rfl,λh=>h,λj v hj=>?_⟩
  have hjl:j<l.length:=by
   rcases Nat.lt_or_ge j l.length with h|h
   ·exact h
   ·simp only [List.map_take,List.getElem?_take] at hj;split at hj
    ·simp [h] at hj
    ·cases hj
  have:=hcell j (by simpa using hjl);rw [Addr.add_mk] at this;refine Eq.trans this ?_;simp only [List.map_take,List.getElem?_take] at hj;split at hj
  ·rw [←hj];simp [hjl]
  ·cases hj
end
section
variable {a:Option Addr} {cap len:Nat}
def adR(k:IntKind)(w:World)(a:Option Addr)(len cap:Nat):Prop:=
 (a=none∧len=0∧cap=0)∨
 ∃(x:Addr) (A:Nat→Option Addr) (L C:Nat→Nat) (Z:Nat→List Int),a=some x∧len≤cap∧cap≤maxLen∧
  ∀r,r<cap→w.cell? (x.add r)=some (.slice (A r) (L r) (C r))∧ou k w (A r) (L r) (C r) (Z r)
theorem aeC{k:IntKind}{w:World}{zs:List Int}(h1:len≤cap)(h2:cap≤maxLen)(h3:zs.length=cap)(h4:∀n∈zs,(Lit.int k n).wf=true)(h5:a=none→cap=0)(h6:∀a',a=some a'→∀c,c<cap→w.cell? (a'.add c)=some (.int k (zs.getD c 0))):ou k w a len cap zs:=by
 cases a with
 | none=>
  have:=h5 rfl;subst this;exact .inl ⟨rfl,om,rfl,List.length_eq_zero_iff.1 h3⟩
 | some a=>exact .inr ⟨a,rfl,h1,h2,h3,λi hi=>h6 a rfl i om,h4⟩
theorem aeK{W:World}(h:adR .u64 W a len cap):aeF (TW.of W) ⟨a,len,cap⟩:=by
 rcases h with ⟨rfl,rfl,rfl⟩|⟨x,A,L,C,Z,rfl,hl,hc,hr⟩
 ·exact⟨[],[],⟨rfl,Nat.le_refl _,dcd,λh=>absurd rfl h⟩,rfl,λi t h=>by simp at h⟩
 ·have hrow:∀r,∃l,r<len→Rd (TW.of W) ⟨A r,L r,C r⟩ l:=λr=>by
   by_cases h:r<len
   ·obtain⟨l,hl⟩:=aax (hr r om).2;exact⟨l,λ_=>hl⟩
   ·exact⟨[],λh'=>absurd h' h⟩
  refine⟨(List.range len).map λr=>Classical.choose (hrow r),(List.range len).map λr=>⟨A r,L r,C r⟩,⟨smp,hl,hc,λhne=>?_⟩,smp,λi t hi=>?_⟩
  ·have hpos:0<len:=by
    rcases Nat.eq_zero_or_pos len with h|h
    ·subst h;exact absurd smp hne
    ·exact h
   have h0:=(hr 0 om).1;have hspot:=qi h0;obtain⟨b,o,sp⟩:=x;rw [show (Addr.add ⟨b,o,sp⟩ 0)=⟨b,o,sp⟩ by rfl] at hspot;simp only at hspot;subst hspot;refine⟨b,o,rfl,λh=>h,λj v hj=>?_⟩
   have hjl:j<len:=by
    have:=(List.getElem?_eq_some_iff.1 hj).1;simpa using this
   have:=(hr j om).1;rw [Addr.add_mk] at this;refine Eq.trans this ?_;rw [←hj];simp [hjl]
  ·have hil:i<len:=by
    have:=(List.getElem?_eq_some_iff.1 hi).1;simpa using this
   have:=Classical.choose_spec (hrow i) hil;simp [hil] at hi;subst hi;simpa [hil] using this
end
end Go.Proofs.YtpbimnlggalnfaaGreatDoor.Zg
