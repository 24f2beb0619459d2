/- A part of the proofs of this seat's laws. -/
import Derived.Test.YtpbimnlggalnfaaGreatDoorGK
import Derived.Test.YtpbimnlggalnfaaGreatDoorGP5
import Derived.ProofKit
import Derived.OpenShut
set_option linter.unusedVariables false
set_option linter.unusedSimpArgs false
set_option linter.unnecessarySimpa false
namespace Go.Proofs.YtpbimnlggalnfaaGreatDoor.Zg
open Go.RowKit
section
variable {B j k x:Nat} {w w' w0:TW} {s:Sl} {l:List Nat} {K:Sl→TW→Prop} {c:Int} {a:Addr} {u:Value}
abbrev B32:Nat:=4294967296
theorem b32:B32=4294967296:=rfl
theorem b2:2≤B32:=dcd
theorem bw(h:x<B32):x<W64:=Nat.lt_trans h dcd
def Dn(w:TW)(B:Nat)(s:Sl)(x:Nat):Prop:=Ow w B s (dg B32 x)
def Dr(w:TW)(s:Sl)(x:Nat):Prop:=Rd w s (dg B32 x)
def dz(x:Nat):Nat:=(dg B32 x).length
theorem fK(x:Nat):(dg B32 x).length=dz x:=rfl
theorem aa3:dz x=0↔x=0:=jv b2
theorem rl{y:Nat}(h:x≤y):dz x≤dz y:=no b2 h
theorem yb(h:x<B32^k):dz x≤k:=jw b2 h
theorem wA(x:Nat):x<B32^dz x:=mP b2 x
theorem acy(x:Nat):dz x≤2*sz x:=by
 refine yb ?_;rw [Nat.pow_mul];exact jp x
theorem Dn.dr(h:Dn w B s x):Dr w s x:=Ow.rd h
theorem Dn.ext(h:Dn w B s x)(hx:Ext aa w w'):Dn w' B s x:=Ow.ext h hx
theorem Dr.ext(h:Dr w s x)(hx:Ext aa w w'):Dr w' s x:=Rd.ext h hx
theorem Dr.here(h:Dr w s x):Dr w.here s x:=Rd.here h
theorem Dn.at(h:Dn w B s x):Dn (w.at k) B s x:=Ow.at h
theorem Dr.len(h:Dr w s x):s.n=dz x:=Rd.len h
theorem Dr.lt(_:Dr w s x)(j:Nat):(dg B32 x).getD j 0<4294967296:=(kN b2 x).getD dcd j
theorem Dn.nil(w:TW)(B:Nat):Dn w B Sl.nil 0:=by have:=Ow.nil w B;rwa [←bf B32] at this
theorem Dr.nil(w:TW):Dr w Sl.nil 0:=(Dn.nil w 0).dr
theorem push(h:Ow w w0.w.heap.size s l)(e:Ext aa w0 w){y:Int}(hy:y=x)(hx:x<W64)(hn:l.length+1≤1099511627776)(hK:∀s' w',Ow w' w0.w.heap.size s' (l++[x])→Ext aa w0 w'→K s' w'):nwb w [.int .u64 y] T.ao λb w'=>apd w' T.ao 1 8 s ⟨some ⟨b,0,none⟩,1,1⟩ K:=by
 refine tF hy hx λb w1 h1 e1=>?_
 have h:=h.ext e1;refine h.cat h1.rd (Nat.le_trans e.size e1.size) (by simpa using hn) λs' w' h' e' _=>hK s' w' h' ((e.trans e1).own e' h.blk_le)
theorem Rd.add0(h:Rd w s l){x:Int}{d:Nat}(hx:x=j)(hc:c=d)(hlt:d+l.getD j 0<W64){K:Int→TW→Prop}(hK:K (d+l.getD j 0:Nat) w):
  Jn [.int .u64] (λJ=>cond (decide (x<(s.n:Int))) (ixa s x 1 λa=>ldc (.int .u64) w a λ(v:Int)=>bnd (wu (c+v)) λn=>J n w) (J c w)) K:=by
 refine xQ ?_;have hl:=h.len;subst hx hc;refine ac (λh0=>?_) (λh0=>?_)
 ·exact h.ix rfl om (ag smp hlt hK)
 ·rw [gW om,Nat.add_zero] at hK;exact hK
theorem yG(h:Rd w s l)(hs:Sm B32 l):Ct Pg F.aG [s.v] w aa [.one .slice] λ(s':Sl) _=>s'=s.cut 0 (dz (vl B32 l)) 1:=by
 refine Ct.aG ?_;unfold Sh.aG;have h:=h.here;have hl:=h.len;have hc:=h.cap;refine j1 (λ(k:Int) w'=>Ext aa w.here w'∧k=(dz (vl B32 l):Nat)) ?_ ?_
 ·refine lp1 (λm (k:Int) w'=>∃j:Nat,k=j∧m=j∧j≤l.length∧vl B32 (l.drop j)=0∧Ext aa w.here w') l.length ⟨l.length,by rw [hl],rfl,Nat.le_refl _,by simp [vl],Ext.refl _ _⟩ ?_;rintro m k w' ⟨j,rfl,rfl,hj,hz,hx⟩;refine j1 (λ(b:Bool) w''=>w''=w'∧b=decide (∃h:0<m,l[m-1]=0)) ?_ ?_
  ·refine ac (λh0=>?_) (λh0=>?_)
   ·refine ab om om ((h.ext hx).idx (j:=m-1) om om ⟨rfl,?_⟩);rw [Bool.eq_iff_iff];simp;exact⟨λh=>⟨om,h⟩,λ⟨_,h⟩=>h⟩
   ·exact⟨rfl,by simp;omega⟩
  ·rintro b w'' ⟨rfl,rfl⟩;refine ac (λh0=>?_) (λh0=>?_)
   ·obtain⟨h1,h2⟩:=h0;refine ab om om ⟨m-1,om,m-1,om,rfl,om,?_,hx⟩;have:=ig B32 (l.drop (m-1)) 1 (by simp;omega);rw [List.drop_drop,show m-1+1=m by omega,hz] at this;rw [this,List.drop_eq_getElem_cons (by omega:m-1<l.length),List.take_succ_cons];simp [vl,h2]
   ·refine⟨hx,?_⟩;rw [dz,rY b2 hs hj hz (λh1 h2=>h0 ⟨h1,h2⟩)];simp [hj]
 ·rintro k w' ⟨hx,rfl⟩;have h1:dz (vl B32 l)≤l.length:=mC b2 hs;exact kH (l:=0) (h:=dz (vl B32 l)) rfl rfl (Nat.zero_le _) om (rt1 (c:=.slice) _ hx rfl)
theorem nm(h:Ow w B s l)(hs:Sm B32 l)(hK:∀s' w',Ext aa w w'→Dn w' B s' (vl B32 l)→K s' w'):cl Pg F.aG [s.v] w [.one .slice] K:=by
 refine c1 (yG h.rd hs) ?_;rintro s' w' hx rfl;refine hK _ _ hx ?_;have:=(h.cut0 (n:=dz (vl B32 l)) (mC b2 hs)).ext hx;rwa [dz,←(mO b2 hs).1] at this
theorem Sm.snoc{b:Nat}(h:Sm b l)(hx:x<b):Sm b (l++[x]):=h.append (Sm.cons hx (Sm.nil _))
theorem yZ{m:Nat}(hc:c=m)(hm:m≤17592186044416)(h:∀s w',Ow w' w.w.heap.size s []→Ext aa w w'→K s w'):mks w 0 c T.ao 8 [.int .u64 0] K:=
 abM (n:=0) rfl hc (Nat.zero_le _) hm λ_ _ hf _ _ e _=>h _ _ (hf.cut0 (n:=0) (Nat.zero_le _)) e
theorem Rd.ixk(h:Rd w0 s l)(e:Ext aa w0 w){i:Int}(hi:i=j)(hj:j<l.length){K:Addr→Int→Prop}(hK:∀a,(∀w',Ext aa w0 w'→w'.w.cell? a=some (U (l.getD j 0)))→K a (l.getD j 0:Nat)):ixa s i 1 (λa=>ldc (.int .u64) w a (K a)):=by
 subst hi;have hne:l.map U≠[]:=λe=>by have:=congrArg List.length e;simp at this;subst this;simp at hj
 have hl:=h.len;obtain⟨b,o,hp,_,_⟩:=h.rv.2.2.2 hne
 have key:∀w',Ext aa w0 w'→w'.w.cell? ((⟨b,o,none⟩:Addr).add (j*1))=some (U (l.getD j 0)):=λw' e'=>by
  obtain⟨b',o',hp',_,hc⟩:=(h.ext e').rv.2.2.2 hne;rw [hp] at hp';injection hp' with hp';injection hp' with h1 h2;subst h1 h2;rw [Nat.mul_one,Addr.add_mk];exact hc j _ (by simp [hj])
 exact⟨⟨b,o,none⟩,hp,om,om,_,key w e,hK _ key⟩
theorem lu{b:Addr}{v:Value}{K:Prop}(h1:w.w.cell? a=some u)(h2:w.w.cell? b=some v)(hK:K):hld w [(a,u),(b,v)] K:=⟨λy hy=>by
 simp only [List.mem_cons,List.not_mem_nil,or_false] at hy;rcases hy with rfl|rfl
 ·exact h1
 ·exact h2,hK⟩
theorem kj{K:Prop}(h1:w.w.cell? a=some u)(hK:K):hld w [(a,u)] K:=⟨λy hy=>by
 simp only [List.mem_cons,List.not_mem_nil,or_false] at hy;subst hy;exact h1,hK⟩
theorem yI(hs:Nt w s x)(hn:s.n≤274877906944):Ct Pg F.cL [s.v] w aa [.one .slice] λ(s':Sl) w'=>Dn w' w.w.heap.size s' x:=by
 obtain⟨l,hs,rfl⟩:=hs;refine Ct.cL ?_;unfold Sh.cL;have hl:=hs.len;have hs:=hs.here;refine ab om om (yZ (m:=2*s.n) om om λo w1 ho e1=>?_);refine j1 (λ(o:Sl) w2=>∃P,Ow w2 w.here.w.heap.size o P∧Sm B32 P∧vl B32 P=vl W64 l∧Ext aa w.here w2) ?_ ?_
 ·refine lp2 (λm (o:Sl) (i:Int) w2=>∃(j:Nat) (P:List Nat),i=j∧m=l.length-j∧j≤l.length∧P.length=2*j∧Ow w2 w.here.w.heap.size o P∧Sm B32 P∧vl B32 P=vl W64 (l.take j)∧Ext aa w.here w2) l.length ⟨0,[],rfl,om,om,rfl,ho,Sm.nil _,by simp [fG],e1⟩ ?_;rintro m o i w2 ⟨j,P,rfl,rfl,hj,hP,ho,hsm,hv,e2⟩;refine ac (λh0=>?_) (λh0=>?_)
  ·have hj1:j<l.length:=om;have hb:=hs.lt j;have hgo:=ai W64 l j;refine hs.ixk e2.drew rfl hj1 λa1 k1=>eF (x:=l.getD j 0) (y:=4294967296) rfl rfl dcd (hs.ixk e2.drew rfl hj1 λa2 k2=>jq (x:=l.getD j 0) (y:=4294967296) rfl rfl hb dcd ?_)
   generalize l.getD j 0=v at*;have hm:v%4294967296<B32:=Nat.mod_lt _ dcd;have hd:v/4294967296<B32:=Nat.div_lt_of_lt_mul (by rw [b32];omega);refine aaR (l:=[v%4294967296,v/4294967296]) 2 rfl (Sm.cons (bw hm) (Sm.cons (bw hd) (Sm.nil _))) dcd λb w3 h3 e3=>?_
   have e23:=e2.drew.trans e3;refine lu (k2 _ e23) (k1 _ e23) ?_;have ho:=Ow.ext ho.drew e3;refine ho.cat h3.rd e23.size (by simp [hP];omega) λs1 w4 h4 e4 _=>?_
   have e4:=e23.own e4 ho.blk_le;refine lu (k2 _ e4) (k1 _ e4) ?_;refine ab om om ⟨l.length-(j+1),om,j+1,_,om,rfl,hj1,by simp [hP];omega,h4,hsm.append (Sm.cons hm (Sm.cons hd (Sm.nil _))),?_,e4⟩;rw [eH,hP,hv,hgo,cW,sZ,show B32^(2*j)=W64^j by rw [Nat.pow_mul];rfl,b32,Nat.mod_add_div]
  ·have:j=l.length:=om;subst this;rw [List.take_of_length_le (Nat.le_refl _)] at hv;exact⟨P,ho,hsm,hv,e2⟩
 ·rintro o w2 ⟨P,ho,hsm,hv,e2⟩;refine nm ho hsm λs' w' e' h'=>rt1 (c:=.slice) _ (e2.trans e') ?_
  rw [hv] at h';exact h'.at
end
section
variable {w:TW} {s t:Sl} {x y:Nat}
theorem aaJ(hs:Dr w s x)(ht:Dr w t y)(hx:dz x≤274877906944)(hy:dz y≤274877906944):Ct Pg F.dh [s.v,t.v] w aa [.one .slice] λ(s':Sl) w'=>Dn w' w.w.heap.size s' (x+y):=by
 refine Ct.dh ?_;unfold Sh.dh;have ls:=hs.len;have lt:=ht.len;have hs:=hs.here;have ht:=ht.here;obtain⟨n,hn⟩:∃n,n=max (dz x) (dz y):=⟨_,rfl⟩;refine iT (ab (by split<;>omega) (by split<;>omega) (yZ (m:=n+1) (by split<;>omega) om λo w1 ho e1=>?_));refine j1 (λ(o:Sl) w2=>∃P,Ow w2 w.here.w.heap.size o P∧Sm B32 P∧vl B32 P=x+y∧Ext aa w.here w2) ?_ ?_
 ·refine lp3 (λm (o:Sl) (c i:Int) w2=>∃(j d:Nat) (P:List Nat),c=d∧i=j∧m=2*(n-j)+d∧j≤n+1∧d≤1∧P.length=j∧Ow w2 w.here.w.heap.size o P∧Sm B32 P∧vl B32 P+B32^j*d=vl B32 ((dg B32 x).take j)+vl B32 ((dg B32 y).take j)∧Ext aa w.here w2∧(j=n+1→d=0)) (2*n) ⟨0,0,[],rfl,rfl,om,om,om,rfl,ho,Sm.nil _,rfl,e1,λh=>by omega⟩ ?_;rintro m o c i w2 ⟨j,d,P,rfl,rfl,rfl,hj,hd,hP,ho,hsm,hv,e2,hend⟩;refine j1 (λ(b:Bool) w3=>w3=w2∧b=decide (j<n∨0<d)) ?_ ?_
  ·refine ac (λh=>⟨rfl,?_⟩) (λh=>ac (λh2=>⟨rfl,?_⟩) (λh2=>⟨rfl,?_⟩))
   ·rw [eq_comm,decide_eq_true_iff];left;omega
   ·rw [eq_comm,decide_eq_true_iff];left;omega
   ·rw [Bool.eq_iff_iff,decide_eq_true_iff,decide_eq_true_iff];omega
  rintro b w3 ⟨rfl,rfl⟩;refine ac (λh=>?_) (λh=>?_)
  ·have ha:=hs.lt j;have hb:=ht.lt j;have ga:=ai B32 (dg B32 x) j;have gb:=ai B32 (dg B32 y) j;refine (hs.ext e2).add0 rfl rfl (by rw [w64];omega) ((ht.ext e2).add0 rfl rfl (by rw [w64];omega) ?_);have hpast:n≤j→(dg B32 x).getD j 0=0∧(dg B32 y).getD j 0=0:=λh=>⟨gW (by rw [fK];omega),gW (by rw [fK];omega)⟩
   generalize (dg B32 x).getD j 0=a at*;generalize (dg B32 y).getD j 0=b at*;refine eF (x:=d+a+b) (y:=4294967296) rfl rfl dcd ?_;have hm:(d+a+b)%4294967296<B32:=Nat.mod_lt _ dcd;refine push ho e2 rfl (bw hm) om λo' w4 ho' e4=>?_
   refine jq (x:=d+a+b) (y:=4294967296) rfl rfl (by rw [w64];omega) dcd ?_
   have hm2:2*(n-(j+1))+(d+a+b)/4294967296<2*(n-j)+d:=by
    rcases Nat.lt_or_ge j n with h|h
    ·omega
    ·obtain⟨h1,h2⟩:=hpast h;omega
   refine ab om om ⟨_,hm2,j+1,_,_,rfl,om,rfl,om,om,by simp [hP],ho',hsm.snoc hm,?_,e4,λh5=>?_⟩
   ·have hdm:=Nat.mod_add_div (d+a+b) 4294967296;rw [fV,hP,Nat.pow_succ,ga,gb];generalize (d+a+b)%4294967296=s1 at*;generalize (d+a+b)/4294967296=c1 at*;have e2:B32^j*s1+B32^j*B32*c1=B32^j*(d+a+b):=by rw [←hdm];grind
    grind
   ·obtain⟨h1,h2⟩:=hpast om;omega
  ·refine⟨P,ho,hsm,?_,e2⟩;have:d=0:=om;subst this;rw [aA (l:=dg B32 x) (by rw [fK];omega),aA (l:=dg B32 y) (by rw [fK];omega),aX b2,aX b2] at hv;simpa using hv
 ·rintro o w2 ⟨P,ho,hsm,hv,e2⟩;refine nm ho hsm λs' w' e' h'=>rt1 (c:=.slice) _ (e2.trans e') ?_
  rw [hv] at h';exact h'.at
theorem vr(hs:Dr w s x)(ht:Dr w t y)(hx:dz x≤274877906944)(hle:y≤x):Ct Pg F.cy [s.v,t.v] w aa [.one .slice] λ(s':Sl) w'=>Dn w' w.w.heap.size s' (x-y):=by
 refine Ct.cy ?_;unfold Sh.cy;have ls:=hs.len;have lt:=ht.len;have hs:=hs.here;have ht:=ht.here;have hyx:=rl hle;refine yZ (m:=dz x) om om λo w1 ho e1=>?_
 refine j1 (λ(o:Sl) w2=>∃P,Ow w2 w.here.w.heap.size o P∧Sm B32 P∧vl B32 P=x-y∧Ext aa w.here w2) ?_ ?_
 ·refine lp3 (λm (o:Sl) (c i:Int) w2=>∃(j d:Nat) (P:List Nat),c=d∧i=j∧m=dz x-j∧j≤dz x∧d≤1∧P.length=j∧Ow w2 w.here.w.heap.size o P∧Sm B32 P∧vl B32 P+vl B32 ((dg B32 y).take j)=vl B32 ((dg B32 x).take j)+B32^j*d∧Ext aa w.here w2) (dz x) ⟨0,0,[],rfl,rfl,om,om,om,rfl,ho,Sm.nil _,rfl,e1⟩ ?_;rintro m o c i w2 ⟨j,d,P,rfl,rfl,rfl,hj,hd,hP,ho,hsm,hv,e2⟩;refine ac (λh=>?_) (λh=>?_)
  ·have ha:=hs.lt j;have hb:=ht.lt j;have ga:=ai B32 (dg B32 x) j;have gb:=ai B32 (dg B32 y) j;have hj1:j<(dg B32 x).length:=by rw [fK];omega
   refine (ht.ext e2).add0 rfl rfl (by rw [w64];omega) ?_;refine (hs.ext e2).ix rfl hj1 ?_;refine j2 (λ(o':Sl)(c':Int) w4=>∃z d':Nat,c'=d'∧d'≤1∧z<B32∧z+(dg B32 y).getD j 0+d=(dg B32 x).getD j 0+B32*d'∧Ow w4 w.here.w.heap.size o' (P++[z])∧Ext aa w.here w4) ?_ ?_
   ·refine ac (λh1=>?_) (λh1=>?_)
    ·refine (hs.ext e2).ix rfl hj1 ?_;generalize (dg B32 x).getD j 0=a at*;generalize (dg B32 y).getD j 0=b at*;refine ag (y:=a-(d+b)) om (by rw [w64];omega) ?_;exact push ho e2 rfl (by rw [w64];omega) om λo' w4 ho' e4=>⟨a-(d+b),0,rfl,om,by rw [b32];omega,om,ho',e4⟩
    ·refine (hs.ext e2).ix rfl hj1 ?_;generalize (dg B32 x).getD j 0=a at*;generalize (dg B32 y).getD j 0=b at*;refine ag (y:=a+4294967296) smp (by rw [w64];omega) (ag (y:=a+4294967296-(d+b)) om (by rw [w64];omega) ?_);exact push ho e2 rfl (by rw [w64];omega) om λo' w4 ho' e4=>⟨a+4294967296-(d+b),1,rfl,om,by rw [b32];omega,by rw [b32];omega,ho',e4⟩
   rintro o' c' w4 ⟨z,d',rfl,hd',hz,he,ho',e4⟩;refine ab om om ⟨dz x-(j+1),om,j+1,_,_,rfl,om,rfl,om,hd',by simp [hP],ho',hsm.snoc hz,?_,e4⟩;rw [fV,hP,Nat.pow_succ,ga,gb];generalize (dg B32 x).getD j 0=a at*;generalize (dg B32 y).getD j 0=b at*
   have:B32^j*z+B32^j*b+B32^j*d=B32^j*a+B32^j*B32*d':=by
    have:=congrArg (B32^j*·) he;simp only [Nat.mul_add] at this;rw [Nat.mul_assoc];exact this
   omega
  ·have hj:j=dz x:=om;subst hj;rw [aA (l:=dg B32 x) (by rw [fK];exact Nat.le_refl _),aA (l:=dg B32 y) (by rw [fK];exact hyx),aX b2,aX b2] at hv;refine⟨P,ho,hsm,?_,e2⟩;have h1:=iS hsm;rw [hP] at h1
   have:d=0:=by
    rcases Nat.eq_zero_or_pos d with h|h
    ·exact h
    ·have:d=1:=om;subst this;omega
   subst this;omega
 ·rintro o w2 ⟨P,ho,hsm,hv,e2⟩;refine nm ho hsm λs' w' e' h'=>rt1 (c:=.slice) _ (e2.trans e') ?_
  rw [hv] at h';exact h'.at
theorem vt(hs:Dr w s x)(ht:Dr w t y):Ct Pg F.cA [s.v,t.v] w aa [.one (.int .i64)] λ(r:Int) _=>r=gZ x y:=by
 refine Ct.cA ?_;unfold Sh.cA;have ls:=hs.len;have lt:=ht.len;have hle:=Rd.le hs;rw [fK] at hle;refine aL (λh0=>?_) (λh0=>?_)
 ·have h0:dz x≠dz y:=by intro h;simp [ls,lt,h] at h0
  refine ac (λh1=>?_) (λh1=>?_)
  ·refine rt1 (c:=.int .i64) _ (Ext.refl _ _) ?_;rw [gZ,if_pos];exact Nat.lt_of_not_le λh=>by have:=rl h;omega
  ·refine rt1 (c:=.int .i64) _ (Ext.refl _ _) ?_;have:¬x≤y:=λh=>by have:=rl h;omega
   rw [gZ,if_neg om,if_neg om]
 ·have h0:dz x=dz y:=by simp at h0;omega
  have hlx:=fK x;have hly:=fK y;refine ab om om ?_;refine j0 (λw'=>Ext aa w.here w'∧x=y) ?_ ?_
  ·refine lp1 (λk (i:Int) w'=>∃j:Nat,i=j-1∧k=j∧j≤dz x∧vl B32 ((dg B32 x).drop j)=vl B32 ((dg B32 y).drop j)∧Ext aa w.here w') (dz x) ⟨dz x,om,rfl,Nat.le_refl _,?_,Ext.refl _ _⟩ ?_
   ·rw [List.drop_of_length_le om,List.drop_of_length_le om]
   ·rintro k i w' ⟨j,rfl,rfl,hj,he,hx⟩;refine ac (λh1=>?_) (λh1=>?_)
    ·have hs1:=(Rd.ext hs.here hx).drew;have ht1:=(Rd.ext ht.here hx).drew;have e1:(k:Int)-1=(k-1:Nat):=om;have hk:k-1<(dg B32 x).length:=om;have hk2:k-1<(dg B32 y).length:=om;refine hs1.idx e1 hk (ht1.idx e1 hk2 ?_);refine ac (λh2=>?_) (λh2=>?_)
     ·refine rt1 (c:=.int .i64) _ hx.drew ?_;have:=js (kN b2 x) hk hk2 om (by rw [show k-1+1=k by omega,he];exact Nat.le_refl _);rw [aX b2,aX b2] at this;rw [gZ,if_pos this]
     ·refine hs1.drew.idx e1 hk (ht1.drew.idx e1 hk2 ?_);refine ac (λh3=>?_) (λh3=>?_)
      ·refine rt1 (c:=.int .i64) _ hx.drew.drew ?_;have:=js (kN b2 y) hk2 hk om (by rw [show k-1+1=k by omega,he];exact Nat.le_refl _);rw [aX b2,aX b2] at this;rw [gZ,if_neg om,if_neg om]
      ·refine ab om om ⟨k-1,om,k-1,om,rfl,om,?_,hx.drew.drew⟩;rw [List.drop_eq_getElem_cons hk,List.drop_eq_getElem_cons hk2,show k-1+1=k by omega,cW,cW,he];omega
    ·refine⟨hx,?_⟩;have:k=0:=om;subst this;rw [List.drop_zero,List.drop_zero,aX b2,aX b2] at he;exact he
  ·rintro w' ⟨hx,he⟩;refine rt1 (c:=.int .i64) _ hx ?_;rw [gZ,if_neg om,if_pos he]
end
section
variable {l:List Nat} {w:TW} {s:Sl} {x:Nat}
theorem ack{j:Nat}:vl B32 (l.take (2*(j+1)))=vl B32 (l.take (2*j))+W64^j*(l.getD (2*j) 0+l.getD (2*j+1) 0*B32):=by
 rw [show 2*(j+1)=2*j+1+1 by omega,ai,ai,Nat.pow_succ,show B32^(2*j)=W64^j by rw [Nat.pow_mul];rfl];grind
theorem xo(hs:Dr w s x)(hx:dz x≤274877906944):Ct Pg F.cT [s.v] w aa [.one .slice] λ(s':Sl) w'=>On w' w.w.heap.size s' x:=by
 refine Ct.cT ?_;unfold Sh.cT;have ls:=hs.len;have hs:=hs.here;refine j1 (λ(o:Sl) w2=>∃P,Ow w2 w.here.w.heap.size o P∧vl W64 P=x∧Ext aa w.here w2) ?_ ?_
 ·refine lp2 (λm (o:Sl) (i:Int) w2=>∃(j:Nat) (P:List Nat),i=(2*j:Nat)∧m=dz x+1-2*j∧2*j≤dz x+1∧P.length=j∧Ow w2 w.here.w.heap.size o P∧vl W64 P=vl B32 ((dg B32 x).take (2*j))∧Ext aa w.here w2) (dz x+1) ⟨0,[],rfl,om,om,rfl,Ow.nil _ _,by simp [fG],Ext.refl _ _⟩ ?_;rintro m o i w2 ⟨j,P,rfl,rfl,hj,hP,ho,hv,e2⟩;refine ac (λh=>?_) (λh=>?_)
  ·have ha:=hs.lt (2*j);have hb:=hs.lt (2*j+1);have hgo:=ack (l:=dg B32 x) (j:=j);have hj1:2*j<(dg B32 x).length:=by rw [fK];omega
   refine (Rd.ext hs e2).ix rfl hj1 (ab om om ?_);refine j1 (λ(y:Int) w3=>w3=w2∧y=((dg B32 x).getD (2*j) 0+(dg B32 x).getD (2*j+1) 0*B32:Nat)) ?_ ?_
   ·refine ac (λh1=>?_) (λh1=>?_)
    ·refine ab om om ((Rd.ext hs e2).ix (j:=2*j+1) om (by rw [fK];omega) ?_);generalize (dg B32 x).getD (2*j) 0=a at*;generalize (dg B32 x).getD (2*j+1) 0=b at*;exact ag (y:=b*B32) smp (by rw [w64,b32];omega) (ag (y:=a+b*B32) smp (by rw [w64,b32];omega) ⟨rfl,rfl⟩)
    ·rw [gW (l:=dg B32 x) (k:=2*j+1) (by rw [fK];omega)];exact⟨rfl,smp⟩
   rintro y w3 ⟨rfl,rfl⟩;generalize (dg B32 x).getD (2*j) 0=a at*;generalize (dg B32 x).getD (2*j+1) 0=b at*;refine push ho e2 rfl (by rw [w64,b32];omega) om λo' w4 ho' e4=>?_
   refine ab om om ⟨dz x+1-2*(j+1),om,j+1,_,om,rfl,om,by simp [hP],ho',?_,e4⟩;rw [fV,hP,hgo,hv]
  ·refine⟨P,ho,?_,e2⟩;rw [hv,aA (l:=dg B32 x) (by rw [fK];omega),aX b2]
 ·rintro o w2 ⟨P,ho,hv,e2⟩;refine j1 (λ(o:Sl) w3=>On w3 w.here.w.heap.size o x∧Ext aa w.here w3) ?_ ?_
  ·refine lp1 (λm (o:Sl) w3=>∃P,m=P.length∧Ow w3 w.here.w.heap.size o P∧vl W64 P=x∧Ext aa w.here w3) P.length ⟨P,rfl,ho,hv,e2⟩ ?_;clear ho hv e2 P;rintro m o w3 ⟨P,rfl,ho,hv,e3⟩;have lo:=ho.rd.len;have hcap:=ho.rd.cap;refine j1 (λ(b:Bool) w4=>w4=w3∧b=decide (∃h:0<P.length,P[P.length-1]=0)) ?_ ?_
   ·refine ac (λh0=>?_) (λh0=>?_)
    ·refine ab om om (ho.rd.idx (j:=P.length-1) om om ⟨rfl,?_⟩);rw [Bool.eq_iff_iff];simp;exact⟨λh=>⟨om,h⟩,λ⟨_,h⟩=>h⟩
    ·exact⟨rfl,by simp;omega⟩
   rintro b w4 ⟨rfl,rfl⟩;refine ac (λh=>?_) (λh=>?_)
   ·obtain⟨h1,h2⟩:=h;refine ab om om (kH (l:=0) (h:=P.length-1) rfl om (Nat.zero_le _) om ?_);refine⟨P.length-1,om,P.take (P.length-1),smp,ho.cut0 om,?_,e3⟩;rw [←hv];have:=kE (b:=W64) (l:=P) (k:=P.length-1) om;rw [show P.length-1+1=P.length by omega,List.take_of_length_le (Nat.le_refl _),h2,Nat.mul_zero,Nat.add_zero] at this;exact this.symm
   ·refine⟨?_,e3⟩;have:dg W64 (vl W64 P)=P:=qH W2 ho.sm λy hy h0=>h ?_
    ·rw [On,←hv,this];exact ho
    ·rw [List.getLast?_eq_getElem?] at hy;obtain⟨h1,h2⟩:=List.getElem?_eq_some_iff.1 hy;exact⟨om,by rw [h2];exact h0⟩
  ·rintro o w3 ⟨ho,e3⟩;exact rt1 (c:=.slice) _ e3 ho.at
theorem yH{t:Sl}{y:Nat}(hs:Dr w s x)(ht:Rd w t (dg W64 y))(hx:dz x≤274877906944)(hxy:x=y):Ct Pg F.cK [s.v,t.v] w aa [.one .bool] λ(r:Bool) _=>r=true:=by
 subst hxy;refine Ct.cK ?_;unfold Sh.cK;refine c1 (xo hs.here hx) ?_;intro o w1 e1 ho;have h1:=ho.len;have ht:=ht.here.ext e1;have h2:=ht.len;rw [aI] at h2;have hc:=ht.le;rw [aI] at hc;have ho:=ho.rd;refine aq (by simp;omega) ?_;refine j0 (λw'=>Ext aa w1 w') ?_ λw' e=>rt1 (c:=.bool) _ (e1.trans e) rfl
 refine lp1 (λm (i:Int) w'=>∃j:Nat,i=j∧m=sz x-j∧j≤sz x∧Ext aa w1 w') (sz x) ⟨0,rfl,om,om,Ext.refl _ _⟩ ?_;rintro m i w' ⟨j,rfl,rfl,hj,e⟩;refine ac (λh=>?_) (λ_=>e);refine (ho.ext e).drew.ix rfl (by rw [aI];omega) ((ht.ext e).drew.ix rfl (by rw [aI];omega) (aq smp ?_));exact ab om om ⟨sz x-(j+1),om,j+1,om,rfl,om,e.drew⟩
theorem pE(n:Nat):2^n=B32^(n/32)*2^(n%32):=by
 rw [show B32=2^32 by decide,←Nat.pow_mul,←Nat.pow_add,Nat.div_add_mod]
theorem ou(h:Sm B32 l)(k:Nat):vl B32 (l.drop k)=vl B32 l/B32^k:=by
 rcases Nat.lt_or_ge l.length k with hk|hk
 ·have hlt:vl B32 l<B32^k:=Nat.lt_of_lt_of_le (iS h) (Nat.pow_le_pow_right dcd (Nat.le_of_lt hk));rw [List.drop_of_length_le (Nat.le_of_lt hk),Nat.div_eq_of_lt hlt];rfl
 ·have h1:=ig B32 l k hk;have h2:=iS (h.take k);rw [List.length_take,Nat.min_eq_left hk] at h2;have h3:0<B32^k:=Nat.pow_pos dcd;rw [h1,Nat.add_mul_div_left _ _ h3,Nat.div_eq_of_lt h2,Nat.zero_add]
end
section
variable {x:Nat} {w w':TW} {s:Sl} {ls:List (List Nat)}
theorem uL{p M L L' v a b c s1 c' A Q:Nat}(h1:s1+M*c'=v+a*b+c)(hL:L'+p*v=L+p*s1)(hi:L+p*c=A+Q*a):L'+p*M*c'=A+(Q+p*b)*a:=by
 have:p*s1+p*(M*c')=p*v+p*(a*b)+p*c:=by rw [←Nat.mul_add,h1];grind
 grind
theorem getD_set_ne{l:List Nat}{i k:Nat}(h:i≠k):(l.set i x).getD k 0=l.getD k 0:=by simp [h]
theorem aaI{t:Sl}{y:Nat}(hs:Dr w s x)(ht:Dr w t y)(hx:dz x≤274877906944)(hy:dz y≤274877906944):Ct Pg F.df [s.v,t.v] w aa [.one .slice] λ(s':Sl) w'=>Dn w' w.w.heap.size s' (x*y):=by
 refine Ct.df ?_;unfold Sh.df;have ls:=hs.len;have lt:=ht.len;have hs:=hs.here;have ht:=ht.here;refine ab om om (bW (N:=dz x+dz y) om om λo w1 ho _ e1 _=>?_);refine j0 (λw2=>∃P,Ow w2 w.here.w.heap.size o P∧Sm B32 P∧vl B32 P=x*y∧Ext aa w.here w2) ?_ ?_
 ·refine lp1 (λm (i:Int) w2=>∃(j:Nat) (P:List Nat),i=j∧m=dz x-j∧j≤dz x∧P.length=dz x+dz y∧Ow w2 w.here.w.heap.size o P∧Sm B32 P∧vl B32 P=vl B32 ((dg B32 x).take j)*y∧(∀k,j+dz y≤k→P.getD k 0=0)∧Ext aa w.here w2) (dz x) ⟨0,_,rfl,om,om,smp,ho,Sm.zeros dcd _,by rw [iN];simp [fG],λk _=>by simp [List.getElem?_replicate];split<;>rfl,e1⟩ ?_;rintro m i w2 ⟨j,P,rfl,rfl,hj,hP,ho,hsm,hv,hz,e2⟩;refine ac (λh=>?_) (λh=>?_)
  ·have ha:=hs.lt j;have hgo:=ai B32 (dg B32 x) j;have hj1:j<(dg B32 x).length:=by rw [fK];omega
   refine j1 (λ(c:Int) w3=>∃(P:List Nat) (d:Nat),c=d∧d<B32∧P.length=dz x+dz y∧Ow w3 w.here.w.heap.size o P∧Sm B32 P∧vl B32 P+B32^(j+dz y)*d=vl B32 ((dg B32 x).take (j+1))*y∧(∀k,j+dz y≤k→P.getD k 0=0)∧Ext aa w.here w3) ?_ ?_
   ·refine lp2 (λm (c i:Int) w3=>∃(q d:Nat) (P:List Nat),c=d∧i=q∧m=dz y-q∧q≤dz y∧d<B32∧P.length=dz x+dz y∧Ow w3 w.here.w.heap.size o P∧Sm B32 P∧vl B32 P+B32^(j+q)*d=vl B32 ((dg B32 x).take j)*y+B32^j*vl B32 ((dg B32 y).take q)*(dg B32 x).getD j 0∧(∀k,j+dz y≤k→P.getD k 0=0)∧Ext aa w.here w3) (dz y) ⟨0,0,P,rfl,rfl,om,om,dcd,hP,ho,hsm,by rw [hv];simp [fG],hz,e2⟩ ?_;clear ho hsm hv hz e2 hP P;rintro m c i w3 ⟨q,d,P,rfl,rfl,rfl,hq,hd,hP,ho,hsm,hv,hz,e3⟩;refine ac (λh1=>?_) (λh1=>?_)
    ·have hb:=ht.lt q;have hgb:=ai B32 (dg B32 y) q;have hjq:j+q<P.length:=om;have hpv:=hsm.getD dcd (j+q);refine ab om om (ho.rd.drew.ix (j:=j+q) om hjq ?_);refine (Rd.ext hs e3).drew.ix rfl hj1 ((Rd.ext ht e3).drew.ix rfl (by rw [fK];omega) ?_);have hset:=jG (b:=B32) hjq;rw [show P[j+q]=P.getD (j+q) 0 by simp [hjq]] at hset;generalize P.getD (j+q) 0=v at*;generalize (dg B32 x).getD j 0=a at*;generalize (dg B32 y).getD q 0=b at*;rw [b32] at hd hpv;have hab:a*b≤4294967295*4294967295:=Nat.mul_le_mul om om;refine ag (y:=a*b) smp (by rw [w64];omega) (ag (y:=v+a*b) smp (by rw [w64];omega) (ag (y:=v+a*b+d) smp (by rw [w64];omega) (ab om om ?_)));refine eF (x:=v+a*b+d) (y:=4294967296) rfl rfl dcd ?_;have hm:(v+a*b+d)%4294967296<B32:=Nat.mod_lt _ dcd;refine ho.drew.store (j:=j+q) om hjq (bw hm) rfl λw4 ho4 e4=>?_
     refine jq (x:=v+a*b+d) (y:=4294967296) rfl rfl (by rw [w64];omega) dcd ?_;refine ab om om ⟨dz y-(q+1),om,q+1,_,_,rfl,om,rfl,om,by rw [b32];omega,by simp [hP],ho4,hsm.set _ hm,?_,λk hk=>?_,e3.drew.own e4 ho.blk_le⟩
     ·have hdm:=Nat.mod_add_div (v+a*b+d) 4294967296;have hset:=hset ((v+a*b+d)%4294967296);rw [←Nat.add_assoc,Nat.pow_succ,hgb,Nat.mul_add,←Nat.mul_assoc,←Nat.pow_add];exact uL hdm hset hv
     ·exact (getD_set_ne om).trans (hz k hk)
    ·have:q=dz y:=om;subst this;refine⟨P,d,rfl,hd,hP,ho,hsm,?_,hz,e3⟩;rw [aA (l:=dg B32 y) (by rw [fK];exact Nat.le_refl _),aX b2] at hv;rw [hv,hgo];grind
   ·clear ho hsm hv hz e2 hP P;rintro c w3 ⟨P,d,rfl,hd,hP,ho,hsm,hv,hz,e3⟩;have hjq:j+dz y<P.length:=om;refine ab om om (ho.store (j:=j+dz y) om hjq (bw hd) rfl λw4 ho4 e4=>?_);refine ab om om ⟨dz x-(j+1),om,j+1,_,om,rfl,om,by simp [hP],ho4,hsm.set _ hd,?_,λk hk=>?_,e3.own e4 ho.blk_le⟩
    ·have hset:=jG (b:=B32) hjq d;have h0:=hz _ (Nat.le_refl _);rw [show P[j+dz y]=P.getD (j+dz y) 0 by simp [hjq],h0,Nat.mul_zero,Nat.add_zero] at hset;rw [hset,hv]
    ·exact (getD_set_ne om).trans (hz k om)
  ·have:j=dz x:=om;subst this;rw [aA (l:=dg B32 x) (by rw [fK];exact Nat.le_refl _),aX b2] at hv;exact⟨P,ho,hsm,hv,e2⟩
 ·rintro w2 ⟨P,ho,hsm,hv,e2⟩;refine nm ho hsm λs' w' e' h'=>rt1 (c:=.slice) _ (e2.trans e') ?_
  rw [hv] at h';exact h'.at
def Rl(w:TW)(s:Sl)(ls:List (List Nat)):Prop:=∃ss:List Sl,Rdv w 1 s (ss.map Sl.v)∧ss.length=ls.length∧∀i t,ss[i]?=some t→Rd w t (ls.getD i [])
theorem Rl.rs(h:Rl w s ls):Rs w s (ls.map (vl W64)):=by
 obtain⟨ss,h1,h2,h3⟩:=h;refine⟨ss,h1,by simpa using h2,λi t ht=>⟨_,h3 i t ht,?_⟩⟩
 have:i<ls.length:=by
  have:=(List.getElem?_eq_some_iff.1 ht).1;omega
 simp [this]
theorem Rl.len(h:Rl w s ls):s.n=ls.length:=by have:=h.rs.len;simpa using this
theorem Rl.here(h:Rl w s ls):Rl w.here s ls:=h.imp λ_ h=>⟨h.1,h.2.1,λi t ht=>(h.2.2 i t ht).here⟩
theorem Rl.ext(h:Rl w s ls)(hx:Ext aa w w'):Rl w' s ls:=h.imp λ_ h=>⟨h.1.ext hx λ_ _ h=>h,h.2.1,λi t ht=>(h.2.2 i t ht).ext hx⟩
theorem Rl.idx(h:Rl w s ls)(hx:Ext aa w w'){i:Int}{j:Nat}(hi:i=j)(hj:j<ls.length){K:Addr→Sl→Prop}(hK:∀a t,(∀w'',Ext aa w w''→w''.w.cell? a=some t.v)→Rd w t (ls.getD j [])→K a t):ixa s i 1 (λa=>ldc .slice w' a (K a)):=by
 subst hi;have hl:=h.len;obtain⟨ss,h0,h5,h6⟩:=h;have hjs:j<ss.length:=om;have hne:ss.map Sl.v≠[]:=λe=>by have:=congrArg List.length e;simp at this;subst this;simp at hjs
 obtain⟨b,o,hp,_,hc⟩:=h0.2.2.2 hne
 have key:∀w'',Ext aa w w''→w''.w.cell? ((⟨b,o,none⟩:Addr).add (j*1))=some (ss[j].v):=λw'' e'=>by
  obtain⟨b',o',hp',_,hc⟩:=(h0.ext e' λ_ _ h=>h).2.2.2 hne;rw [hp] at hp';injection hp' with hp';injection hp' with h1 h2;subst h1 h2;rw [Nat.mul_one,Addr.add_mk];exact hc j _ (by simp [hjs])
 exact⟨⟨b,o,none⟩,hp,om,om,ss[j],key w' hx,hK _ _ key (h6 j _ (by simp [hjs]))⟩
theorem ab1(x y:Nat):dz (x*y)≤dz x+dz y:=by
 refine yb ?_;rw [Nat.pow_add];exact Nat.mul_lt_mul'' (wA x) (wA y)
end
section
variable {w:TW} {s:Sl} {x:Nat}
theorem ru{b:Nat}(hb:2≤b)(x:Nat):∀k,(dg b x).getD k 0=x/b^k%b:=by
 intro k;induction k generalizing x with
 | zero=>
  rcases Nat.eq_zero_or_pos x with h|h
  ·subst h;simp [bf]
  ·rw [kO hb h];simp
 | succ k ih=>
  rcases Nat.eq_zero_or_pos x with h|h
  ·subst h;simp [bf]
  ·rw [kO hb h];have:=ih (x/b);rw [Nat.div_div_eq_div_mul,Nat.mul_comm b,←Nat.pow_succ] at this;simpa using this
theorem aaH{i:Nat}(hs:Dr w s x)(hi:i<32*dz x)(hx:dz x≤274877906944):Ct Pg F.de [s.v,.int .i64 i] w aa [.one (.int .u64)] λ(r:Int) _=>r=(x/2^i%2:Nat):=by
 refine Ct.de ?_;unfold Sh.de;refine jr (x:=i) (y:=32) rfl rfl om dcd ?_;refine (Rd.here hs).ix rfl (by rw [fK];omega) ?_;have hv:=Dr.lt hs (i/32);rw [ru b2] at hv ⊢;refine eF (x:=i) (y:=32) rfl rfl dcd (ag (y:=i%32) rfl (by rw [w64];omega) (je (x:=x/B32^(i/32)%B32) (n:=i%32) rfl rfl (by show _≤64;omega) ?_));have hlt:x/B32^(i/32)%B32/2^(i%32)<W64:=Nat.lt_of_le_of_lt (Nat.div_le_self _ _) (Nat.lt_trans hv dcd);refine kU (x:=x/B32^(i/32)%B32/2^(i%32)) (k:=1) rfl dcd hlt dcd ?_;refine rt1 (c:=.int .u64) _ (Ext.refl _ _) ?_;congr 1;rw [pE i,←Nat.div_div_eq_div_mul];generalize x/B32^(i/32)=y;obtain⟨k,hk⟩:∃k,k=i%32:=⟨_,rfl⟩;have hk32:k<32:=om;rw [←hk,Nat.pow_one]
 have hB:B32=2^k*(2*2^(31-k)):=by
  rw [←Nat.pow_succ',←Nat.pow_add,show B32=2^32 by decide];congr 1;omega
 rw [hB,Nat.mod_mul_right_div_self,Nat.mod_mul_right_mod]
theorem yJ(hs:Dr w s x)(hx:dz x≤274877906944):Ct Pg F.cM [s.v] w aa [.one (.int .i64)] λ(r:Int) _=>∃n:Nat,r=n∧x<2^n∧n≤32*dz x:=by
 refine Ct.cM ?_;unfold Sh.cM;have ls:=hs.len;refine aL (λh0=>?_) (λh0=>?_)
 ·have:dz x=0:=by simp at h0;omega
  refine rt1 (c:=.int .i64) _ (Ext.refl _ _) ⟨0,rfl,?_,om⟩;rw [aa3] at this;subst this;decide
 have h0:dz x≠0:=λh=>by simp [ls,h] at h0
 have h0:0<dz x:=om;refine ab om om (ab om om (ab om om ?_));refine (Rd.here hs).ix (j:=dz x-1) om (by rw [fK];omega) ?_;have hv:=Dr.lt hs (dz x-1);have hgo:=ai B32 (dg B32 x) (dz x-1);rw [show dz x-1+1=dz x by omega,aA (l:=dg B32 x) (by rw [fK];exact Nat.le_refl _),aX b2] at hgo;have hlow:=iS ((kN b2 x).take (dz x-1));rw [List.length_take,fK,Nat.min_eq_left om] at hlow;generalize (dg B32 x).getD (dz x-1) 0=v at*;generalize vl B32 ((dg B32 x).take (dz x-1))=low at*;have hB:B32^(dz x-1)=2^(32*(dz x-1)):=by rw [Nat.pow_mul]
 refine j1 (λ(n:Int) w'=>w'=w.here∧∃k:Nat,n=(32*(dz x-1)+k:Nat)∧v<2^k∧k≤32) ?_ ?_
 ·refine lp2 (λm (n y:Int) w'=>w'=w.here∧∃k u:Nat,n=(32*(dz x-1)+k:Nat)∧y=u∧m=u∧u=v/2^k∧k≤32) v ⟨rfl,0,v,om,rfl,rfl,smp,om⟩ ?_;rintro m n y w' ⟨rfl,k,u,rfl,rfl,rfl,hu,hk⟩;refine ac (λh=>?_) (λh=>?_)
  ·have hk2:k<32:=by
    rcases Nat.lt_or_ge k 32 with h1|h1
    ·exact h1
    ·have:k=32:=om;subst this;rw [hu,Nat.div_eq_of_lt om] at h;omega
   have hmW:m<W64:=by rw [hu];exact Nat.lt_of_le_of_lt (Nat.div_le_self _ _) (Nat.lt_trans hv dcd)
   refine ab om om (jq (x:=m) (y:=2) rfl rfl hmW dcd ⟨m/2,om,rfl,k+1,m/2,om,rfl,rfl,?_,om⟩);rw [hu,Nat.div_div_eq_div_mul,←Nat.pow_succ]
  ·refine⟨rfl,k,rfl,?_,hk⟩;have:m=0:=om;rw [this] at hu;have hp:=Nat.two_pow_pos k;exact Nat.lt_of_div_eq_zero hp hu.symm
 rintro n w' ⟨rfl,k,rfl,hk,hk2⟩;refine rt1 (c:=.int .i64) _ (Ext.refl _ _) ⟨_,rfl,?_,om⟩;rw [hB] at hlow hgo;rw [Nat.pow_add];have:=Nat.mul_le_mul_left (2^(32*(dz x-1))) hk;rw [Nat.mul_succ] at this;omega
end
theorem vR{p M L L' v c s c' O T:Nat}(h1:s+M*c'=2*v+c)(hL:L'+p*v=L+p*s)(hi:L+p*c=O+T):L'+p*M*c'=O+(T+p*v):=by
 have:p*s+p*(M*c')=p*v+p*v+p*c:=by rw [←Nat.mul_add,h1];grind
 grind
theorem xm{w:TW}{B:Nat}{r d:Sl}{L:List Nat}{D b:Nat}(hr:Ow w B r L)(hsm:Sm B32 L)(hL:L.length=dz D+1)(hd:Dr w d D)(hv:vl B32 L<D)(hb:b≤1)(hD:dz D≤274877906944)(hne:∀c,d.blk=some c→¬r.blk=some c):
  Ct Pg F.ch [r.v,.int .u64 b,d.v] w (λc=>r.blk=some c) [.one .bool] λ(ok:Bool) w'=>ok=decide (D≤2*vl B32 L+b)∧∃L',Ow w' B r L'∧Sm B32 L'∧L'.length=dz D+1∧vl B32 L'=(if D≤2*vl B32 L+b then 2*vl B32 L+b-D else 2*vl B32 L+b):=by
 refine Ct.ch ?_;unfold Sh.ch;have lr:=hr.rd.len;have ld:=hd.len;have hd:=hd.here;obtain⟨T,hT⟩:∃T,T=2*vl B32 L+b:=⟨_,rfl⟩;rw [←hT];have hDp:=wA D
 have hTB:T<B32^(dz D+1):=by
  rw [Nat.pow_succ];have:2*B32^dz D≤B32^dz D*B32:=by rw [Nat.mul_comm];exact Nat.mul_le_mul_left _ dcd
  omega
 have hdk:∀{w'},Ext (λc=>r.blk=some c) w.here w'→Rd w' d (dg B32 D):=λh=>Rd.extX hd h hne
 refine j0 (λw1=>∃P,Ow w1 B r P∧Sm B32 P∧P.length=dz D+1∧vl B32 P=T∧Ext (λc=>r.blk=some c) w.here w1) ?_ ?_
 ·refine lp2 (λm (c i:Int) w1=>∃(j e:Nat) (P:List Nat),c=e∧i=j∧m=dz D+1-j∧j≤dz D+1∧e≤1∧P.length=dz D+1∧Ow w1 B r P∧Sm B32 P∧(∀k,j≤k→P.getD k 0=L.getD k 0)∧vl B32 P+B32^j*e=vl B32 L+(vl B32 (L.take j)+b)∧Ext (λc=>r.blk=some c) w.here w1) (dz D+1) ⟨0,b,L,rfl,rfl,om,om,hb,hL,hr.here,hsm,λ_ _=>rfl,by simp [fG],Ext.refl _ _⟩ ?_;rintro m c i w1 ⟨j,e,P,rfl,rfl,rfl,hj,he,hP,ho,hs,hk,hvl,hx⟩;refine ac (λh=>?_) (λh=>?_)
  ·have hjP:j<P.length:=om;have hgo:=ai B32 L j;have hset:=jG (b:=B32) hjP;have hlt:=hs.getD dcd j;refine ho.rd.ix rfl hjP ?_;rw [show P[j]=P.getD j 0 by simp [hjP]] at hset;rw [hk j (Nat.le_refl _)] at hset hlt ⊢;rw [b32] at hlt;generalize L.getD j 0=v at*;refine ag (y:=2*v) smp (by rw [w64];omega) (ag (y:=2*v+e) smp (by rw [w64];omega) ?_);refine eF (x:=2*v+e) (y:=4294967296) rfl rfl dcd ?_;have hm:(2*v+e)%4294967296<B32:=Nat.mod_lt _ dcd;refine ho.store (j:=j) rfl hjP (bw hm) rfl λw2 ho2 e2=>?_
   refine jq (x:=2*v+e) (y:=4294967296) rfl rfl (by rw [w64];omega) dcd ?_;refine ab om om ⟨dz D+1-(j+1),om,j+1,_,_,rfl,om,rfl,om,om,by simp [hP],ho2,hs.set _ hm,λk hk2=>?_,?_,hx.trans e2⟩
   ·rw [getD_set_ne om];exact hk k om
   ·have:=vR (Nat.mod_add_div (2*v+e) 4294967296) (hset ((2*v+e)%4294967296)) hvl;rw [Nat.pow_succ,hgo,this];omega
  ·have:j=dz D+1:=om;subst this;rw [aA (l:=L) om] at hvl;refine⟨P,ho,hs,hP,?_,hx⟩
   have h1:e=0:=by
    rcases Nat.eq_zero_or_pos e with h|h
    ·exact h
    ·have:=Nat.mul_le_mul_left (B32^(dz D+1)) h;omega
   subst h1;omega
 rintro w1 ⟨P,ho,hs,hP,hPT,hx⟩;obtain⟨E,hE⟩:∃E,E=dg B32 D++[0]:=⟨_,rfl⟩;have hEl:E.length=dz D+1:=by rw [hE];simp [fK]
 have hEv:vl B32 E=D:=by rw [hE,fV,aX b2];simp
 have hEs:Sm B32 E:=by rw [hE];exact (kN b2 D).snoc dcd
 have hEg:∀k,(dg B32 D).getD k 0=E.getD k 0:=λk=>by
  rw [hE];rcases Nat.lt_or_ge k (dg B32 D).length with h|h
  ·simp [List.getElem?_append_left h]
  ·rw [gW h];rcases Nat.lt_or_ge k (dg B32 D++[0]).length with h2|h2
   ·have:k=(dg B32 D).length:=by simp at h2;omega
    subst this;simp
   ·rw [gW h2]
 refine ab om om ?_;refine j1 (λ(more:Bool) w2=>w2=w1∧more=decide (D≤T)) ?_ ?_
 ·refine lp2 (λm (more:Bool) (i:Int) w2=>w2=w1∧more=true∧∃j:Nat,i=j-1∧m=j∧j≤dz D+1∧vl B32 (P.drop j)=vl B32 (E.drop j)) (dz D+1) ⟨rfl,rfl,dz D+1,om,rfl,Nat.le_refl _,by rw [List.drop_of_length_le om,List.drop_of_length_le om]⟩ ?_;rintro m more i w2 ⟨rfl,rfl,j,rfl,rfl,hj,he⟩;refine ac (λh=>?_) (λh=>?_)
  ·have hk:m-1<P.length:=om;have hk2:m-1<E.length:=om;have e1:(m:Int)-1=(m-1:Nat):=om;have hp:P.getD (m-1) 0=P[m-1]:=by simp [hk]
   have hq:E.getD (m-1) 0=E[m-1]:=by simp [hk2]
   have hm1:m-1+1=m:=om;refine (hdk hx).at0 e1 ?_;refine ho.rd.ix e1 hk ?_;rw [hEg,hp,hq];refine aL (λh2=>?_) (λh2=>?_)
   ·refine ho.rd.ix e1 hk ?_;rw [hp];refine⟨rfl,?_⟩;have h2:P[m-1]≠E[m-1]:=by simp at h2;omega
    rw [Bool.eq_iff_iff,decide_eq_true_iff,decide_eq_true_iff];rcases Nat.lt_or_ge E[m-1] P[m-1] with h3|h3
    ·have:=js hEs hk2 hk h3 (by rw [hm1,he];exact Nat.le_refl _);rw [hEv,hPT] at this;omega
    ·have:=js hs hk hk2 om (by rw [hm1,he];exact Nat.le_refl _);rw [hEv,hPT] at this;omega
   ·have h2:P[m-1]=E[m-1]:=by simp at h2;omega
    refine ab om om ⟨m-1,om,rfl,rfl,m-1,om,rfl,om,?_⟩;rw [List.drop_eq_getElem_cons hk,List.drop_eq_getElem_cons hk2,hm1,cW,cW,he,h2]
  ·have:m=0:=om;subst this;rw [List.drop_zero,List.drop_zero,hPT,hEv] at he;exact⟨rfl,by simp [he]⟩
 rintro more w2 ⟨rfl,rfl⟩;refine aL (λh=>?_) (λh=>?_)
 ·have h:¬D≤T:=by simpa using h
  refine rt1 (c:=.bool) _ hx ⟨by simp [h],P,ho.at,hs,hP,?_⟩;rw [if_neg h,hPT]
 have hDT:D≤T:=by simpa using h
 refine j0 (λw3=>∃Q,Ow w3 B r Q∧Sm B32 Q∧Q.length=dz D+1∧vl B32 Q=T-D∧Ext (λc=>r.blk=some c) w.here w3) ?_ ?_
 ·refine lp2 (λm (c i:Int) w1=>∃(j e:Nat) (P:List Nat),c=e∧i=j∧m=dz D+1-j∧j≤dz D+1∧e≤1∧P.length=dz D+1∧Ow w1 B r P∧Sm B32 P∧vl B32 P+vl B32 ((dg B32 D).take j)=T+B32^j*e∧Ext (λc=>r.blk=some c) w.here w1) (dz D+1) ⟨0,0,P,rfl,rfl,om,om,om,hP,ho,hs,by simp [fG,hPT],hx⟩ ?_;clear ho hs hP hPT hx P;rintro m c i w1 ⟨j,e,P,rfl,rfl,rfl,hj,he,hP,ho,hs,hvl,hx⟩;refine ac (λh=>?_) (λh=>?_)
  ·have hjP:j<P.length:=om;have hgo:=ai B32 (dg B32 D) j;have hset:=jG (b:=B32) hjP;have hlt:=hs.getD dcd j;have hdl:(dg B32 D).getD j 0<4294967296:=(kN b2 D).getD dcd j;rw [b32] at hlt;refine (hdk hx).add0 rfl rfl (by rw [w64];omega) (ho.rd.ix rfl hjP ?_);rw [show P[j]=P.getD j 0 by simp [hjP]] at hset;refine j1 (λ(c:Int) w3=>∃z e':Nat,c=e'∧e'≤1∧z<B32∧z+(dg B32 D).getD j 0+e=P.getD j 0+B32*e'∧Ow w3 B r (P.set j z)∧Ext (λc=>r.blk=some c) w.here w3) ?_ ?_
   ·refine ac (λh1=>?_) (λh1=>?_)
    ·refine ho.rd.ix rfl hjP ?_;generalize P.getD j 0=v at*;generalize (dg B32 D).getD j 0=u at*;refine ag (y:=v-(e+u)) om (by rw [w64];omega) ?_;exact ho.store (j:=j) rfl hjP (by rw [w64];omega) rfl λw4 ho4 e4=>⟨v-(e+u),0,rfl,om,by rw [b32];omega,om,ho4,hx.trans e4⟩
    ·refine ho.rd.ix rfl hjP ?_;generalize P.getD j 0=v at*;generalize (dg B32 D).getD j 0=u at*;refine ag (y:=4294967296-(e+u)) om (by rw [w64];omega) (ag (y:=v+(4294967296-(e+u))) om (by rw [w64];omega) ?_);exact ho.store (j:=j) rfl hjP (by rw [w64];omega) rfl λw4 ho4 e4=>⟨v+(4294967296-(e+u)),1,rfl,om,by rw [b32];omega,by rw [b32];omega,ho4,hx.trans e4⟩
   rintro c w3 ⟨z,e',rfl,he',hz,heq,ho3,hx3⟩;refine ab om om ⟨dz D+1-(j+1),om,j+1,_,_,rfl,om,rfl,om,he',by simp [hP],ho3,hs.set _ hz,?_,hx3⟩;have hset:=hset z;rw [Nat.pow_succ,hgo];generalize P.getD j 0=v at*;generalize (dg B32 D).getD j 0=u at*
   have:B32^j*z+B32^j*u+B32^j*e=B32^j*v+B32^j*B32*e':=by
    have:=congrArg (B32^j*·) heq;simp only [Nat.mul_add] at this;rw [Nat.mul_assoc];exact this
   omega
  ·have:j=dz D+1:=om;subst this;rw [aA (l:=dg B32 D) (by rw [fK];omega),aX b2] at hvl;refine⟨P,ho,hs,hP,?_,hx⟩;have h1:=iS hs;rw [hP] at h1
   have h1:e=0:=by
    rcases Nat.eq_zero_or_pos e with h|h
    ·exact h
    ·have:=Nat.mul_le_mul_left (B32^(dz D+1)) h;omega
   subst h1;omega
 rintro w3 ⟨Q,hQ,hQs,hQl,hQv,hx3⟩;refine rt1 (c:=.bool) _ hx3 ⟨by simp [hDT],Q,hQ.at,hQs,hQl,?_⟩;rw [if_pos hDT,hQv]
section
variable {y:Nat}
theorem aas{l:List Nat}(h:Sm B32 l)(k:Nat):l.getD k 0=vl B32 l/B32^k%B32:=by
 rcases Nat.lt_or_ge k l.length with hk|hk
 ·rw [←ou h,List.drop_eq_getElem_cons hk,cW,Nat.add_mul_mod_self_left,Nat.mod_eq_of_lt (h.get hk)];simp [hk]
 ·rw [gW hk,←ou h,List.drop_of_length_le hk];rfl
theorem vE{x2 X bt:Nat}(hy:0<y)(hbt:bt≤1)(h:x2=2*X+bt):(y≤2*(X%y)+bt→x2%y=2*(X%y)+bt-y∧x2/y=2*(X/y)+1)∧(¬y≤2*(X%y)+bt→x2%y=2*(X%y)+bt∧x2/y=2*(X/y)):=by
 have h1:=Nat.div_add_mod X y;have h2:=Nat.mod_lt X hy;generalize X/y=Q at*;generalize X%y=R at*;have e1:y*(2*Q)=2*(y*Q):=by grind
 have e2:y*(2*Q+1)=2*(y*Q)+y:=by grind
 refine⟨λhle=>?_,λhle=>?_⟩
 ·have:=(Nat.div_mod_unique (a:=x2) (b:=y) (c:=2*R+bt-y) (d:=2*Q+1) hy).2 ⟨om,om⟩;exact⟨this.2,this.1⟩
 ·have:=(Nat.div_mod_unique (a:=x2) (b:=y) (c:=2*R+bt) (d:=2*Q) hy).2 ⟨om,om⟩;exact⟨this.2,this.1⟩
theorem uF{w:TW}{s t:Sl}{x:Nat}(hs:Dr w s x)(ht:Dr w t y)(hy:0<y)(hx:dz x≤134217728)(hyd:dz y≤134217728):Ct Pg F.bN [s.v,t.v] w aa [.one .slice,.one .slice] λ(q r:Sl) w'=>(Dr w' q (x/y)∧Dr w' r (x%y))∧(∀c,q.blk=some c→w.w.heap.size≤c)∧(r=s∨∀c,r.blk=some c→w.w.heap.size≤c):=by
 refine Ct.bN ?_;unfold Sh.bN;have ls:=hs.len;have lt:=ht.len;refine c1 (vt hs.here ht.here) ?_;rintro r w1 e1 rfl;have hs:=hs.here.ext e1;have ht:=ht.here.ext e1;refine ac (λh0=>?_) (λh0=>?_)
 ·have h0:x<y:=jR.1 h0;refine rt2 (c:=.slice) (d:=.slice) Sl.nil s e1 ?_;rw [Nat.div_eq_of_lt h0,Nat.mod_eq_of_lt h0];exact⟨⟨(Dn.nil _ 0).dr,Rd.at_ hs⟩,λc hc=>by simp [Sl.blk] at hc,.inl rfl⟩
 clear h0;refine ab om om (bW (N:=dz y+1) om om λr w2 hr _ e2 _=>bW (N:=dz x) om om λq w3 hq _ e3 _=>?_);have br:=λc hc=>(Ow.from_ hr c hc)
 refine c1 (yJ ((hs.ext e2).ext e3) om) ?_;rintro n w4 e4 ⟨n,rfl,hn,hn2⟩;have hr:=(hr.ext e3).ext e4;have hq:=hq.ext e4;have f4:=(e2.trans e3).trans e4;refine ab om om ?_
 have hold:∀{u:Sl} {z:Nat},Dr w1 u z→∀c,u.blk=some c→c<w1.w.heap.size∨z=0:=fun {u z} hu c hc=>by
  rcases Nat.eq_zero_or_pos z with h|h
  ·exact .inr h
  ·left
   have hne:(dg B32 z).map U≠[]:=by
    simp only [ne_eq,List.map_eq_nil_iff];exact λe=>by have:=(qI b2).1 e;omega
   obtain⟨b,o,hp,_,hcell⟩:=Rd.rv hu |>.2.2.2 hne;have:c=b:=by simp [Sl.blk,hp] at hc;omega
   subst this;obtain⟨v,hv⟩:∃v,((dg B32 z).map U)[0]?=some v:=⟨_,List.getElem?_eq_getElem (List.length_pos_iff.2 hne)⟩;exact World.block_lt_of_cell? w1.w _ (hcell 0 v hv)
 refine j0 (λw5=>∃R Q,Ow w5 w1.w.heap.size r R∧Sm B32 R∧vl B32 R=x%y∧Ow w5 w2.w.heap.size q Q∧Sm B32 Q∧vl B32 Q=x/y∧Ext aa w1 w5) ?_ ?_
 ·refine lp1 (λm (i:Int) w5=>∃(j:Nat) (R Q:List Nat),i=j-1∧m=j∧j≤n∧Ow w5 w1.w.heap.size r R∧Sm B32 R∧R.length=dz y+1∧vl B32 R=x/2^j%y∧Ow w5 w2.w.heap.size q Q∧Sm B32 Q∧Q.length=dz x∧vl B32 Q=x/2^j/y*2^j∧Ext aa w1 w5) n ⟨n,_,_,om,rfl,Nat.le_refl _,hr,Sm.zeros dcd _,smp,by rw [iN,Nat.div_eq_of_lt hn,Nat.zero_mod],hq,Sm.zeros dcd _,smp,by rw [iN,Nat.div_eq_of_lt hn,Nat.zero_div,Nat.zero_mul],f4⟩ ?_;rintro m i w5 ⟨j,R,Q,rfl,rfl,hj,hr,hrs,hrl,hrv,hq,hqs,hql,hqv,f5⟩;refine ac (λh=>?_) (λh=>?_)
  ·obtain⟨i,rfl⟩:∃i,m=i+1:=⟨m-1,om⟩;have ei:((i+1:Nat):Int)-1=(i:Nat):=om;rw [ei];refine c1 (aaH (hs.ext f5) om om) ?_;rintro bt w6 e6 rfl;have hr:=hr.ext e6;have hq:=hq.ext e6;have f6:=f5.trans e6;have hbit:x/2^i%2≤1:=om
   have hxi:x/2^i=2*(x/2^(i+1))+x/2^i%2:=by
    have h1:x/2^(i+1)=x/2^i/2:=by rw [Nat.div_div_eq_div_mul,Nat.pow_succ]
    omega
   generalize x/2^i%2=bt at*;generalize hX:x/2^(i+1)=X at*;have hXd:=Nat.div_add_mod X y;have hXm:=Nat.mod_lt X hy;refine ge (xm (b:=bt) hr hrs hrl (ht.ext f6) om hbit om λc hc h=>?_) (λc hc=>hr.ow.2 c hc) ?_
   ·have h1:=hr.blk_le c h;rcases hold ht c hc with h2|h2<;>omega
   intro ok w7 x7 hpost;obtain⟨hok,R',hr7,hrs7,hrl7,hrv7⟩:=hpost;subst hok
   have hq7:=hq.extX x7 λc hc h=>by
    have h1:=(hr.from_ c h);have h2:=hq.blk_le c hc;have h3:=br c h;omega
   have f7:=f6.own x7 hr.blk_le;rw [hrv] at hrv7 ⊢;have hpi:2^(i+1)=2^i*2:=Nat.pow_succ 2 i;refine j0 (λw8=>∃R Q:List Nat,Ow w8 w1.w.heap.size r R∧Sm B32 R∧R.length=dz y+1∧vl B32 R=x/2^i%y∧Ow w8 w2.w.heap.size q Q∧Sm B32 Q∧Q.length=dz x∧vl B32 Q=x/2^i/y*2^i∧Ext aa w1 w8) ?_ ?_
   ·refine ac (λhle=>?_) (λhle=>?_)
    ·have hmod:=(vE hy hbit hxi).1 hle;rw [if_pos hle,←hmod.1] at hrv7;refine jr (x:=i) (y:=32) rfl rfl om dcd ?_;have hkQ:i/32<Q.length:=om;refine hq7.rd.ix rfl hkQ ?_;have hg:=aas hqs (i/32);have hset:=jG (b:=B32) hkQ;rw [show Q[i/32]=Q.getD (i/32) 0 by simp [hkQ]] at hset;have hvlt:=hqs.getD dcd (i/32);obtain⟨k,hk⟩:∃k,k=i%32:=⟨_,rfl⟩;have hk32:k<32:=om;have hBk:B32=2^(k+1)*2^(31-k):=by rw [←Nat.pow_add,show B32=2^32 by decide];congr 1;omega
     have h2i:2^i=B32^(i/32)*2^k:=by rw [hk];exact pE i
     have hdvd:2^(k+1) ∣ Q.getD (i/32) 0:=by
      rw [hg,hqv,hpi,h2i]
      have h3:X/y*(B32^(i/32)*2^k*2)/B32^(i/32)=X/y*2^(k+1):=by
       rw [show X/y*(B32^(i/32)*2^k*2)=B32^(i/32)*(X/y*2^(k+1)) by rw [Nat.pow_succ];grind];exact Nat.mul_div_cancel_left _ (Nat.pow_pos dcd)
      rw [h3];exact (Nat.dvd_mod_iff ⟨_,hBk⟩).2 (Nat.dvd_mul_left _ _)
     have h2k:2^k<2^(k+1):=Nat.pow_lt_pow_right dcd om;have h2k32:2^k<B32:=by rw [show B32=2^32 by decide];exact Nat.pow_lt_pow_right dcd hk32
     have hnew:Q.getD (i/32) 0+2^k<B32:=by
      obtain⟨z,hz⟩:=hdvd;rw [hz] at hvlt ⊢;have h4:z<2^(31-k):=Nat.lt_of_mul_lt_mul_left (by rw [←hBk];exact hvlt);have h5:=Nat.mul_le_mul_left (2^(k+1)) h4;rw [←hBk,Nat.mul_succ] at h5;omega
     generalize Q.getD (i/32) 0=v at*;refine eF (x:=i) (y:=32) rfl rfl dcd (ag (y:=i%32) rfl (by rw [w64];omega) ?_);rw [←hk];refine mg (x:=1) (n:=k) rfl rfl om ?_;rw [Nat.one_mul,Nat.mod_eq_of_lt (bw h2k32)];refine uq (k:=k+1) rfl rfl (bw hvlt) (bw h2k32) hdvd h2k ?_;refine hq7.store (j:=i/32) rfl hkQ (bw hnew) rfl λw8 hq8 e8=>?_
     have hr8:=hr7.extX e8 λc hc h=>by
      have h1:=br c hc;have h2:=hq7.blk_le c h;omega
     refine⟨R',_,hr8,hrs7,hrl7,hrv7,hq8,hqs.set _ hnew,by simp [hql],?_,f7.own e8 λb hb=>Nat.le_trans e2.size (hq7.blk_le b hb)⟩;have hset:=hset (v+2^k);rw [hqv,hpi] at hset;rw [hmod.2,Nat.add_mul,Nat.one_mul,h2i];rw [h2i] at hset;have h6:B32^(i/32)*(v+2^k)=B32^(i/32)*v+B32^(i/32)*2^k:=Nat.mul_add _ _ _;have h7:X/y*(B32^(i/32)*2^k*2)=2*(X/y)*(B32^(i/32)*2^k):=by grind
     omega
    ·have hmod:=(vE hy hbit hxi).2 hle;rw [if_neg hle,←hmod.1] at hrv7;refine⟨R',Q,hr7,hrs7,hrl7,hrv7,hq7,hqs,hql,?_,f7⟩;rw [hqv,hmod.2,hpi];grind
   rintro w8 ⟨R,Q,a1,a2,a3,a4,a5,a6,a7,a8,a9⟩;exact ab om om ⟨i,om,i,R,Q,om,rfl,om,a1,a2,a3,a4,a5,a6,a7,a8,a9⟩
  ·have:m=0:=om;subst this;rw [Nat.pow_zero,Nat.div_one] at hrv hqv;exact⟨R,Q,hr,hrs,hrv,hq,hqs,by rw [hqv,Nat.mul_one],f5⟩
 rintro w5 ⟨R,Q,hr,hrs,hrv,hq,hqs,hqv,f5⟩;refine nm hq hqs λs2 w6 e6 h6=>nm (hr.ext e6) hrs λs3 w7 e7 h7=>?_
 rw [hqv] at h6;rw [hrv] at h7;exact rt2 (c:=.slice) (d:=.slice) _ _ (((e1.trans f5).trans e6).trans e7) ⟨⟨Rd.at_ (h6.ext e7).dr,Rd.at_ h7.dr⟩,λc hc=>Nat.le_trans e1.size (Nat.le_trans e2.size (Ow.blk_le h6 c hc)),.inr λc hc=>Nat.le_trans e1.size (Ow.blk_le h7 c hc)⟩
end
theorem Own.nil(w:TW)(B:Nat)(e:TypeId):Own w B e 1 Sl.nil (([]:List Sl).map Sl.v):=⟨⟨rfl,.inl ⟨rfl,rfl⟩⟩,λb h=>by simp [Sl.blk] at h⟩
section
variable {x:Nat}
def Arg(w:TW)(s:Sl):Prop:=∃l,Rd w s l
theorem kl{k:Nat}(h:sz x≤k):dz x≤2*k:=Nat.le_trans (acy x) (Nat.mul_le_mul_left _ h)
theorem ab8{y:Nat}:decide (gZ x y≥0)=decide (y≤x):=by
 rw [Bool.eq_iff_iff,decide_eq_true_iff,decide_eq_true_iff];have:=@jR x y;omega
def ac0(w:TW)(s:Sl):Prop:=∃ls,Rl w s ls
theorem Ow.extB{w w':TW}{X:Nat→Prop}{B:Nat}{s:Sl}{l:List Nat}(h:Ow w B s l)(hx:Ext X w w')(hX:∀b,X b→b<B):Ow w' B s l:=
 h.extX hx λc hc h'=>by have:=h.blk_le c hc;have:=hX c h';omega
end
section
variable {W:World} {n:Int} {zs:List Int}
def TW.of(W:World):TW:=⟨W,λ_=>False,W.heap.size,λ_ h=>h.elim⟩
theorem ac6{P:Program}{f:FuncId}{args:List Value}(h:Ct P f args (TW.of W) aa [.one .bool] λ(r:Bool) _=>r=true):Calls P f args.toArray W λe w'=>e=.returned (.bool true)∧Below W.heap.size W w':=by
 refine Calls.mono h ?_;rintro e w' ⟨⟨r,_⟩,T',rfl,rfl,hx,hr⟩;have hr:r=true:=hr;subst hr;exact⟨rfl,hx.os,hx.tape,hx.output,hx.size,λk hk=>hx.block k hk (λh=>h) (.inl hk)⟩
def mR(k:IntKind)(w:World)(a:Option Addr)(len cap:Nat)(zs:List Int):Prop:=
 (a=none∧len=0∧cap=0∧zs=[])∨
 ∃x,a=some x∧len≤cap∧cap≤maxLen∧zs.length=cap∧(∀i,i<zs.length→w.cell? (x.add i)=some (.int k (zs.getD i 0)))∧∀n∈zs,(Lit.int k n).wf=true
theorem abm(h:(Lit.int .u64 n).wf=true):∃m:Nat,n=m∧m<W64:=by
 simp only [Lit.wf,Bool.and_eq_true,decide_eq_true_eq] at h;have h1:IntKind.u64.min=0:=dcd;have h2:IntKind.u64.max=18446744073709551615:=dcd;rw [h1,h2] at h;exact⟨n.toNat,om,by rw [w64];omega⟩
theorem ac7(h:(Lit.int .i64 n).wf=true):-9223372036854775808≤n∧n≤9223372036854775807:=by
 simp only [Lit.wf,Bool.and_eq_true,decide_eq_true_eq] at h;have h1:IntKind.i64.min=-9223372036854775808:=dcd;have h2:IntKind.i64.max=9223372036854775807:=dcd;rwa [h1,h2] at h
theorem aau(h:∀n∈zs,(Lit.int .u64 n).wf=true):∃l:List Nat,zs=l.map Int.ofNat∧Sm W64 l:=by
 induction zs with
 | nil=>exact⟨[],rfl,Sm.nil _⟩
 | cons z zs ih=>
  obtain⟨l,h1,h2⟩:=ih λn hn=>h n (List.mem_cons_of_mem _ hn)
  obtain⟨m,h3,h4⟩:=abm (h z (List.mem_cons_self ..));exact⟨m::l,by simp [h1,h3],Sm.cons h4 h2⟩
theorem o9{w:World}{a:Addr}{v:Value}(h:w.cell? a=some v):a.spot=none:=by
 unfold World.cell? at h;split at h
 ·split at h
  ·cases h
  ·rename_i hs;simpa using hs
 ·cases h
theorem yp{a:Option Addr}{len cap:Nat}(h:mR .u64 W a len cap zs):Arg (TW.of W) ⟨a,len,cap⟩:=by
 rcases h with ⟨rfl,rfl,rfl,rfl⟩|⟨x,rfl,hl,hc,hz,hcell,hwf⟩
 ·exact⟨[],Rd.nil _⟩
 ·obtain⟨l,rfl,hs⟩:=aau hwf;have hll:l.length=cap:=by simpa using hz
  refine⟨l.take len,⟨by simp;omega,hl,hc,λhne=>?_⟩,hs.take _⟩
  have hpos:0<len:=by
   rcases Nat.eq_zero_or_pos len with h|h
   ·subst h;exact absurd smp hne
   ·exact h
  have h0:=hcell 0 (by simp;omega);have hspot:=o9 h0;obtain⟨b,o,sp⟩:=x;rw [show (Addr.add ⟨b,o,sp⟩ 0)=⟨b,o,sp⟩ by rfl] at hspot;simp only at hspot;subst hspot;refine⟨b,o,rfl,λh=>h,λj v hj=>?_⟩
  have hjl:j<l.length:=by
   rcases Nat.lt_or_ge j l.length with h|h
   ·exact h
   ·simp only [List.map_take,List.getElem?_take] at hj;split at hj
    ·simp [h] at hj
    ·cases hj
  have:=hcell j (by simpa using hjl);rw [Addr.add_mk] at this;refine Eq.trans this ?_;simp only [List.map_take,List.getElem?_take] at hj;split at hj
  ·rw [←hj];simp [hjl]
  ·cases hj
end
section
variable {a:Option Addr} {cap len:Nat}
def acg(k:IntKind)(w:World)(a:Option Addr)(len cap:Nat):Prop:=
 (a=none∧len=0∧cap=0)∨
 ∃(x:Addr) (A:Nat→Option Addr) (L C:Nat→Nat) (Z:Nat→List Int),a=some x∧len≤cap∧cap≤maxLen∧
  ∀r,r<cap→w.cell? (x.add r)=some (.slice (A r) (L r) (C r))∧mR k w (A r) (L r) (C r) (Z r)
theorem acX{k:IntKind}{w:World}{zs:List Int}(h1:len≤cap)(h2:cap≤maxLen)(h3:zs.length=cap)(h4:∀n∈zs,(Lit.int k n).wf=true)(h5:a=none→cap=0)(h6:∀a',a=some a'→∀c,c<cap→w.cell? (a'.add c)=some (.int k (zs.getD c 0))):mR k w a len cap zs:=by
 cases a with
 | none=>
  have:=h5 rfl;subst this;exact .inl ⟨rfl,om,rfl,List.length_eq_zero_iff.1 h3⟩
 | some a=>exact .inr ⟨a,rfl,h1,h2,h3,λi hi=>h6 a rfl i om,h4⟩
theorem ac4{W:World}(h:acg .u64 W a len cap):ac0 (TW.of W) ⟨a,len,cap⟩:=by
 rcases h with ⟨rfl,rfl,rfl⟩|⟨x,A,L,C,Z,rfl,hl,hc,hr⟩
 ·exact⟨[],[],⟨rfl,Nat.le_refl _,dcd,λh=>absurd rfl h⟩,rfl,λi t h=>by simp at h⟩
 ·have hrow:∀r,∃l,r<len→Rd (TW.of W) ⟨A r,L r,C r⟩ l:=λr=>by
   by_cases h:r<len
   ·obtain⟨l,hl⟩:=yp (hr r om).2;exact⟨l,λ_=>hl⟩
   ·exact⟨[],λh'=>absurd h' h⟩
  refine⟨(List.range len).map λr=>Classical.choose (hrow r),(List.range len).map λr=>⟨A r,L r,C r⟩,⟨smp,hl,hc,λhne=>?_⟩,smp,λi t hi=>?_⟩
  ·have hpos:0<len:=by
    rcases Nat.eq_zero_or_pos len with h|h
    ·subst h;exact absurd smp hne
    ·exact h
   have h0:=(hr 0 om).1;have hspot:=o9 h0;obtain⟨b,o,sp⟩:=x;rw [show (Addr.add ⟨b,o,sp⟩ 0)=⟨b,o,sp⟩ by rfl] at hspot;simp only at hspot;subst hspot;refine⟨b,o,rfl,λh=>h,λj v hj=>?_⟩
   have hjl:j<len:=by
    have:=(List.getElem?_eq_some_iff.1 hj).1;simpa using this
   have:=(hr j om).1;rw [Addr.add_mk] at this;refine Eq.trans this ?_;rw [←hj];simp [hjl]
  ·have hil:i<len:=by
    have:=(List.getElem?_eq_some_iff.1 hi).1;simpa using this
   have:=Classical.choose_spec (hrow i) hil;simp [hil] at hi;subst hi;simpa [hil] using this
end
end Go.Proofs.YtpbimnlggalnfaaGreatDoor.Zg
