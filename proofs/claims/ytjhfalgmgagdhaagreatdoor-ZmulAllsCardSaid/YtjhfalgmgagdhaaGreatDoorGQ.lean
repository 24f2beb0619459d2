/- A part of the proofs of this seat's laws: words, lemmas or contracts of its functions. -/
import Derived.Test.YtjhfalgmgagdhaaGreatDoorGK
import Derived.Test.YtjhfalgmgagdhaaGreatDoorGP5
import Derived.Test.YtjhfalgmgagdhaaGreatDoorGA
import Derived.Test.YtjhfalgmgagdhaaGreatDoorGB
import Derived.Test.YtjhfalgmgagdhaaGreatDoorGP
import Derived.Test.YtjhfalgmgagdhaaGreatDoorGP1
import Derived.Test.YtjhfalgmgagdhaaGreatDoorGP4
import Derived.Test.YtjhfalgmgagdhaaGreatDoorGC
import Derived.ProofKit
import Derived.OpenShut
set_option linter.unusedVariables false
set_option linter.unusedSimpArgs false
set_option linter.unnecessarySimpa false
section
namespace Go.Proofs.YtjhfalgmgagdhaaGreatDoor.Zg
open Go.RowKit
abbrev B32:Nat:=4294967296
theorem b32:B32=4294967296:=rfl
theorem b2:2≤B32:=by decide
theorem bw {x:Nat} (h:x<B32):x<W64:=Nat.lt_trans h (by decide)
def Dn (w:TW) (B:Nat) (s:Sl) (x:Nat):Prop:=Ow w B s (dg B32 x)
def Dr (w:TW) (s:Sl) (x:Nat):Prop:=Rd w s (dg B32 x)
def dz (x:Nat):Nat:=(dg B32 x).length
theorem dz_eq (x:Nat):(dg B32 x).length=dz x:=rfl
theorem dz_zero {x:Nat}:dz x=0↔x=0:=dg_length_zero b2
theorem dz_mono {x y:Nat} (h:x≤y):dz x≤dz y:=dg_length_mono b2 h
theorem dz_pow {x k:Nat} (h:x<B32^k):dz x≤k:=dg_length_le b2 h
theorem dz_lt (x:Nat):x<B32^dz x:=dg_lt_pow b2 x
theorem dz_sz (x:Nat):dz x≤2*sz x:=by
 refine dz_pow ?_
 rw [Nat.pow_mul]
 exact lt_sz x
theorem Dn.dr {w:TW} {B:Nat} {s:Sl} {x:Nat} (h:Dn w B s x):Dr w s x:=Ow.rd h
theorem Dr.ext {w w':TW} {s:Sl} {x:Nat} (h:Dr w s x) (hx:Ext none_ w w'):Dr w' s x:=Rd.ext h hx
theorem Dr.here {w:TW} {s:Sl} {x:Nat} (h:Dr w s x):Dr w.here s x:=Rd.here h
theorem Dn.at {w:TW} {B k:Nat} {s:Sl} {x:Nat} (h:Dn w B s x):Dn (w.at k) B s x:=Ow.at h
theorem Dn.less {w:TW} {B B':Nat} {s:Sl} {x:Nat} (h:Dn w B s x) (hB:B'≤B):Dn w B' s x:=Ow.less h hB
theorem Dr.len {w:TW} {s:Sl} {x:Nat} (h:Dr w s x):s.n=dz x:=Rd.len h
theorem Dr.lt {w:TW} {s:Sl} {x:Nat} (_:Dr w s x) (j:Nat):(dg B32 x).getD j 0<4294967296:=(dg_sm b2 x).getD (by decide) j
theorem push {w0 w:TW} {s:Sl} {l:List Nat} (h:Ow w w0.w.heap.size s l) (e:Ext none_ w0 w) {y:Int} {x:Nat} (hy:y=x) (hx:x<W64) (hn:l.length+1≤1099511627776) {K:Sl→TW→Prop}
  (hK:∀s' w',Ow w' w0.w.heap.size s' (l++[x])→Ext none_ w0 w'→K s' w'):nwb w [.int .u64 y] T.uint64 fun b w'=>apd w' T.uint64 1 8 s ⟨some ⟨b,0,none⟩,1,1⟩ K:=by
 refine nw_u64 hy hx fun b w1 h1 e1=>?_
 have h:=h.ext e1
 refine h.cat h1.rd (Nat.le_trans e.size e1.size) (by simpa using hn) fun s' w' h' e' _=>hK s' w' h' ((e.trans e1).own e' h.blk_le)
theorem Rd.add0 {w:TW} {s:Sl} {l:List Nat} (h:Rd w s l) {x c:Int} {j d:Nat} (hx:x=j) (hc:c=d) (hlt:d+l.getD j 0<W64) {K:Int→TW→Prop} (hK:K (d+l.getD j 0:Nat) w):
  Jn [.int .u64] (fun J=>cond (decide (x<(s.n:Int))) (ixa s x 1 fun a=>ldc (.int .u64) w a fun (v:Int)=>bnd (wu (c+v)) fun n=>J n w) (J c w)) K:=by
 refine jn_all ?_
 have hl:=h.len
 subst hx hc
 refine cnd_d (fun h0=>?_) (fun h0=>?_)
 ·exact h.ix rfl (by omega) (bnd_wu' (by simp) hlt hK)
 ·rw [getD_past (by omega),Nat.add_zero] at hK
  exact hK
theorem ref_norm {w:TW} {s:Sl} {l:List Nat} (h:Rd w s l) (hs:Sm B32 l):Ct Pg F.zigguratref02_norm [s.v] w none_ [.one .slice] fun (s':Sl) _=>s'=s.cut 0 (dz (vl B32 l)) 1:=by
 refine Ct.zigguratref02_norm ?_
 unfold Sh.zigguratref02_norm
 have h:=h.here
 have hl:=h.len
 have hc:=h.cap
 refine j1 (fun (k:Int) w'=>Ext none_ w.here w'∧k=(dz (vl B32 l):Nat)) ?_ ?_
 ·refine lp1 (fun m (k:Int) w'=>∃j:Nat,k=j∧m=j∧j≤l.length∧vl B32 (l.drop j)=0∧Ext none_ w.here w') l.length ⟨l.length,by rw [hl],rfl,Nat.le_refl _,by simp [vl],Ext.refl _ _⟩ ?_
  rintro m k w' ⟨j,rfl,rfl,hj,hz,hx⟩
  refine j1 (fun (b:Bool) w''=>w''=w'∧b=decide (∃h:0<m,l[m-1]=0)) ?_ ?_
  ·refine cnd_d (fun h0=>?_) (fun h0=>?_)
   ·refine bnd_wi (by omega) (by omega) ((h.ext hx).idx (j:=m-1) (by omega) (by omega) ⟨rfl,?_⟩)
    rw [Bool.eq_iff_iff]
    simp
    exact ⟨fun h=>⟨by omega,h⟩,fun ⟨_,h⟩=>h⟩
   ·exact ⟨rfl,by simp;omega⟩
  ·rintro b w'' ⟨rfl,rfl⟩
   refine cnd_d (fun h0=>?_) (fun h0=>?_)
   ·obtain ⟨h1,h2⟩:=h0
    refine bnd_wi (by omega) (by omega) ⟨m-1,by omega,m-1,by omega,rfl,by omega,?_,hx⟩
    have:=vl_split B32 (l.drop (m-1)) 1 (by simp;omega)
    rw [List.drop_drop,show m-1+1=m by omega,hz] at this
    rw [this,List.drop_eq_getElem_cons (by omega:m-1<l.length),List.take_succ_cons]
    simp [vl,h2]
   ·refine ⟨hx,?_⟩
    rw [dz,dg_len_of b2 hs hj hz (fun h1 h2=>h0 ⟨h1,h2⟩)]
    simp [hj]
 ·rintro k w' ⟨hx,rfl⟩
  have h1:dz (vl B32 l)≤l.length:=dg_length_vl b2 hs
  exact slc_of (l:=0) (h:=dz (vl B32 l)) rfl rfl (Nat.zero_le _) (by omega) (rt1 (c:=.slice) _ hx rfl)
theorem nm {w:TW} {B:Nat} {s:Sl} {l:List Nat} {K:Sl→TW→Prop} (h:Ow w B s l) (hs:Sm B32 l) (hK:∀s' w',Ext none_ w w'→Dn w' B s' (vl B32 l)→K s' w'):cl Pg F.zigguratref02_norm [s.v] w [.one .slice] K:=by
 refine c1 (ref_norm h.rd hs) ?_
 rintro s' w' hx rfl
 refine hK _ _ hx ?_
 have:=(h.cut0 (n:=dz (vl B32 l)) (dg_length_vl b2 hs)).ext hx
 rwa [dz,←(dg_vl b2 hs).1] at this
theorem Sm.snoc {b x:Nat} {l:List Nat} (h:Sm b l) (hx:x<b):Sm b (l++[x]):=h.append (Sm.cons hx (Sm.nil _))
theorem mk_0 {w:TW} {c:Int} {m:Nat} {K:Sl→TW→Prop} (hc:c=m) (hm:m≤17592186044416) (h:∀s w',Ow w' w.w.heap.size s []→Ext none_ w w'→K s w'):mks w 0 c T.uint64 8 [.int .u64 0] K:=
 mk_cap (n:=0) rfl hc (Nat.zero_le _) hm fun _ _ hf _ _ e _=>h _ _ (hf.cut0 (n:=0) (Nat.zero_le _)) e
theorem Rd.ixk {w0 w:TW} {s:Sl} {l:List Nat} (h:Rd w0 s l) (e:Ext none_ w0 w) {i:Int} {j:Nat} (hi:i=j) (hj:j<l.length) {K:Addr→Int→Prop} (hK:∀a,(∀w',Ext none_ w0 w'→w'.w.cell? a=some (U (l.getD j 0)))→K a (l.getD j 0:Nat)):ixa s i 1 (fun a=>ldc (.int .u64) w a (K a)):=by
 subst hi
 have hne:l.map U≠[]:=fun e=>by have:=congrArg List.length e;simp at this;subst this;simp at hj
 have hl:=h.len
 obtain ⟨b,o,hp,_,_⟩:=h.rv.2.2.2 hne
 have key:∀w',Ext none_ w0 w'→w'.w.cell? ((⟨b,o,none⟩:Addr).add (j*1))=some (U (l.getD j 0)):=fun w' e'=>by
  obtain ⟨b',o',hp',_,hc⟩:=(h.ext e').rv.2.2.2 hne
  rw [hp] at hp'
  injection hp' with hp'
  injection hp' with h1 h2
  subst h1 h2
  rw [Nat.mul_one,Addr.add_mk]
  exact hc j _ (by simp [hj])
 exact ⟨⟨b,o,none⟩,hp,by omega,by omega,_,key w e,hK _ key⟩
theorem hld2 {w:TW} {a b:Addr} {u v:Value} {K:Prop} (h1:w.w.cell? a=some u) (h2:w.w.cell? b=some v) (hK:K):hld w [(a,u),(b,v)] K:=⟨fun y hy=>by
 simp only [List.mem_cons,List.not_mem_nil,or_false] at hy
 rcases hy with rfl|rfl
 ·exact h1
 ·exact h2,hK⟩
theorem hld1 {w:TW} {a:Addr} {u:Value} {K:Prop} (h1:w.w.cell? a=some u) (hK:K):hld w [(a,u)] K:=⟨fun y hy=>by
 simp only [List.mem_cons,List.not_mem_nil,or_false] at hy
 subst hy
 exact h1,hK⟩
theorem ref_From {w:TW} {s:Sl} {x:Nat} (hs:Nt w s x) (hn:s.n≤274877906944):Ct Pg F.zigguratref02_From [s.v] w none_ [.one .slice] fun (s':Sl) w'=>Dn w' w.w.heap.size s' x:=by
 obtain ⟨l,hs,rfl⟩:=hs
 refine Ct.zigguratref02_From ?_
 unfold Sh.zigguratref02_From
 have hl:=hs.len
 have hs:=hs.here
 refine bnd_wi (by omega) (by omega) (mk_0 (m:=2*s.n) (by omega) (by omega) fun o w1 ho e1=>?_)
 refine j1 (fun (o:Sl) w2=>∃P,Ow w2 w.here.w.heap.size o P∧Sm B32 P∧vl B32 P=vl W64 l∧Ext none_ w.here w2) ?_ ?_
 ·refine lp2 (fun m (o:Sl) (i:Int) w2=>∃(j:Nat) (P:List Nat),i=j∧m=l.length-j∧j≤l.length∧P.length=2*j∧Ow w2 w.here.w.heap.size o P∧Sm B32 P∧vl B32 P=vl W64 (l.take j)∧Ext none_ w.here w2) l.length ⟨0,[],rfl,by omega,by omega,rfl,ho,Sm.nil _,by simp [vl_nil],e1⟩ ?_
  rintro m o i w2 ⟨j,P,rfl,rfl,hj,hP,ho,hsm,hv,e2⟩
  refine cnd_d (fun h0=>?_) (fun h0=>?_)
  ·have hj1:j<l.length:=by omega
   have hb:=hs.lt j
   have hgo:=vl_take_getD W64 l j
   refine hs.ixk e2.drew rfl hj1 fun a1 k1=>remN (x:=l.getD j 0) (y:=4294967296) rfl rfl (by decide) (hs.ixk e2.drew rfl hj1 fun a2 k2=>divNu (x:=l.getD j 0) (y:=4294967296) rfl rfl hb (by decide) ?_)
   generalize l.getD j 0=v at*
   have hm:v%4294967296<B32:=Nat.mod_lt _ (by decide)
   have hd:v/4294967296<B32:=Nat.div_lt_of_lt_mul (by rw [b32];omega)
   refine nw_u64s (l:=[v%4294967296,v/4294967296]) 2 rfl (Sm.cons (bw hm) (Sm.cons (bw hd) (Sm.nil _))) (by decide) fun b w3 h3 e3=>?_
   have e23:=e2.drew.trans e3
   refine hld2 (k2 _ e23) (k1 _ e23) ?_
   have ho:=Ow.ext ho.drew e3
   refine ho.cat h3.rd e23.size (by simp [hP];omega) fun s1 w4 h4 e4 _=>?_
   have e4:=e23.own e4 ho.blk_le
   refine hld2 (k2 _ e4) (k1 _ e4) ?_
   refine bnd_wi (by omega) (by omega) ⟨l.length-(j+1),by omega,j+1,_,by omega,rfl,hj1,by simp [hP];omega,h4,hsm.append (Sm.cons hm (Sm.cons hd (Sm.nil _))),?_,e4⟩
   rw [vl_append,hP,hv,hgo,vl_cons,vl_one,show B32^(2*j)=W64^j by rw [Nat.pow_mul];rfl,b32,Nat.mod_add_div]
  ·have:j=l.length:=by omega
   subst this
   rw [List.take_of_length_le (Nat.le_refl _)] at hv
   exact ⟨P,ho,hsm,hv,e2⟩
 ·rintro o w2 ⟨P,ho,hsm,hv,e2⟩
  refine nm ho hsm fun s' w' e' h'=>rt1 (c:=.slice) _ (e2.trans e') ?_
  rw [hv] at h'
  exact h'.at
end Go.Proofs.YtjhfalgmgagdhaaGreatDoor.Zg
end

section
namespace Go.Proofs.YtjhfalgmgagdhaaGreatDoor.Zg
open Go.RowKit
theorem ref_Add {w:TW} {s t:Sl} {x y:Nat} (hs:Dr w s x) (ht:Dr w t y) (hx:dz x≤274877906944) (hy:dz y≤274877906944):Ct Pg F.zigguratref02_Add [s.v,t.v] w none_ [.one .slice] fun (s':Sl) w'=>Dn w' w.w.heap.size s' (x+y):=by
 refine Ct.zigguratref02_Add ?_
 unfold Sh.zigguratref02_Add
 have ls:=hs.len
 have lt:=ht.len
 have hs:=hs.here
 have ht:=ht.here
 obtain ⟨n,hn⟩:∃n,n=max (dz x) (dz y):=⟨_,rfl⟩
 refine bnd_i (bnd_wi (by split<;>omega) (by split<;>omega) (mk_0 (m:=n+1) (by split<;>omega) (by omega) fun o w1 ho e1=>?_))
 refine j1 (fun (o:Sl) w2=>∃P,Ow w2 w.here.w.heap.size o P∧Sm B32 P∧vl B32 P=x+y∧Ext none_ w.here w2) ?_ ?_
 ·refine lp3 (fun m (o:Sl) (c i:Int) w2=>∃(j d:Nat) (P:List Nat),c=d∧i=j∧m=2*(n-j)+d∧j≤n+1∧d≤1∧P.length=j∧Ow w2 w.here.w.heap.size o P∧Sm B32 P∧vl B32 P+B32^j*d=vl B32 ((dg B32 x).take j)+vl B32 ((dg B32 y).take j)∧Ext none_ w.here w2∧(j=n+1→d=0)) (2*n) ⟨0,0,[],rfl,rfl,by omega,by omega,by omega,rfl,ho,Sm.nil _,rfl,e1,fun h=>by omega⟩ ?_
  rintro m o c i w2 ⟨j,d,P,rfl,rfl,rfl,hj,hd,hP,ho,hsm,hv,e2,hend⟩
  refine j1 (fun (b:Bool) w3=>w3=w2∧b=decide (j<n∨0<d)) ?_ ?_
  ·refine cnd_d (fun h=>⟨rfl,?_⟩) (fun h=>cnd_d (fun h2=>⟨rfl,?_⟩) (fun h2=>⟨rfl,?_⟩))
   ·rw [eq_comm,decide_eq_true_iff];left;omega
   ·rw [eq_comm,decide_eq_true_iff];left;omega
   ·rw [Bool.eq_iff_iff,decide_eq_true_iff,decide_eq_true_iff];omega
  rintro b w3 ⟨rfl,rfl⟩
  refine cnd_d (fun h=>?_) (fun h=>?_)
  ·have ha:=hs.lt j
   have hb:=ht.lt j
   have ga:=vl_take_getD B32 (dg B32 x) j
   have gb:=vl_take_getD B32 (dg B32 y) j
   refine (hs.ext e2).add0 rfl rfl (by rw [w64];omega) ((ht.ext e2).add0 rfl rfl (by rw [w64];omega) ?_)
   have hpast:n≤j→(dg B32 x).getD j 0=0∧(dg B32 y).getD j 0=0:=fun h=>⟨getD_past (by rw [dz_eq];omega),getD_past (by rw [dz_eq];omega)⟩
   generalize (dg B32 x).getD j 0=a at*
   generalize (dg B32 y).getD j 0=b at*
   refine remN (x:=d+a+b) (y:=4294967296) rfl rfl (by decide) ?_
   have hm:(d+a+b)%4294967296<B32:=Nat.mod_lt _ (by decide)
   refine push ho e2 rfl (bw hm) (by omega) fun o' w4 ho' e4=>?_
   refine divNu (x:=d+a+b) (y:=4294967296) rfl rfl (by rw [w64];omega) (by decide) ?_
   have hm2:2*(n-(j+1))+(d+a+b)/4294967296<2*(n-j)+d:=by
    rcases Nat.lt_or_ge j n with h|h
    ·omega
    ·obtain ⟨h1,h2⟩:=hpast h;omega
   refine bnd_wi (by omega) (by omega) ⟨_,hm2,j+1,_,_,rfl,by omega,rfl,by omega,by omega,by simp [hP],ho',hsm.snoc hm,?_,e4,fun h5=>?_⟩
   ·have hdm:=Nat.mod_add_div (d+a+b) 4294967296
    rw [vl_snoc,hP,Nat.pow_succ,ga,gb]
    generalize (d+a+b)%4294967296=s1 at*
    generalize (d+a+b)/4294967296=c1 at*
    have e2:B32^j*s1+B32^j*B32*c1=B32^j*(d+a+b):=by rw [←hdm];grind
    grind
   ·obtain ⟨h1,h2⟩:=hpast (by omega);omega
  ·refine ⟨P,ho,hsm,?_,e2⟩
   have:d=0:=by omega
   subst this
   rw [vl_take_all (l:=dg B32 x) (by rw [dz_eq];omega),vl_take_all (l:=dg B32 y) (by rw [dz_eq];omega),vl_dg b2,vl_dg b2] at hv
   simpa using hv
 ·rintro o w2 ⟨P,ho,hsm,hv,e2⟩
  refine nm ho hsm fun s' w' e' h'=>rt1 (c:=.slice) _ (e2.trans e') ?_
  rw [hv] at h'
  exact h'.at
theorem ref_Sub {w:TW} {s t:Sl} {x y:Nat} (hs:Dr w s x) (ht:Dr w t y) (hx:dz x≤274877906944) (hle:y≤x):Ct Pg F.zigguratref02_Sub [s.v,t.v] w none_ [.one .slice] fun (s':Sl) w'=>Dn w' w.w.heap.size s' (x-y):=by
 refine Ct.zigguratref02_Sub ?_
 unfold Sh.zigguratref02_Sub
 have ls:=hs.len
 have lt:=ht.len
 have hs:=hs.here
 have ht:=ht.here
 have hyx:=dz_mono hle
 refine mk_0 (m:=dz x) (by omega) (by omega) fun o w1 ho e1=>?_
 refine j1 (fun (o:Sl) w2=>∃P,Ow w2 w.here.w.heap.size o P∧Sm B32 P∧vl B32 P=x-y∧Ext none_ w.here w2) ?_ ?_
 ·refine lp3 (fun m (o:Sl) (c i:Int) w2=>∃(j d:Nat) (P:List Nat),c=d∧i=j∧m=dz x-j∧j≤dz x∧d≤1∧P.length=j∧Ow w2 w.here.w.heap.size o P∧Sm B32 P∧vl B32 P+vl B32 ((dg B32 y).take j)=vl B32 ((dg B32 x).take j)+B32^j*d∧Ext none_ w.here w2) (dz x) ⟨0,0,[],rfl,rfl,by omega,by omega,by omega,rfl,ho,Sm.nil _,rfl,e1⟩ ?_
  rintro m o c i w2 ⟨j,d,P,rfl,rfl,rfl,hj,hd,hP,ho,hsm,hv,e2⟩
  refine cnd_d (fun h=>?_) (fun h=>?_)
  ·have ha:=hs.lt j
   have hb:=ht.lt j
   have ga:=vl_take_getD B32 (dg B32 x) j
   have gb:=vl_take_getD B32 (dg B32 y) j
   have hj1:j<(dg B32 x).length:=by rw [dz_eq];omega
   refine (ht.ext e2).add0 rfl rfl (by rw [w64];omega) ?_
   refine (hs.ext e2).ix rfl hj1 ?_
   refine j2 (fun (o':Sl) (c':Int) w4=>∃z d':Nat,c'=d'∧d'≤1∧z<B32∧z+(dg B32 y).getD j 0+d=(dg B32 x).getD j 0+B32*d'∧Ow w4 w.here.w.heap.size o' (P++[z])∧Ext none_ w.here w4) ?_ ?_
   ·refine cnd_d (fun h1=>?_) (fun h1=>?_)
    ·refine (hs.ext e2).ix rfl hj1 ?_
     generalize (dg B32 x).getD j 0=a at*
     generalize (dg B32 y).getD j 0=b at*
     refine bnd_wu' (y:=a-(d+b)) (by omega) (by rw [w64];omega) ?_
     exact push ho e2 rfl (by rw [w64];omega) (by omega) fun o' w4 ho' e4=>⟨a-(d+b),0,rfl,by omega,by rw [b32];omega,by omega,ho',e4⟩
    ·refine (hs.ext e2).ix rfl hj1 ?_
     generalize (dg B32 x).getD j 0=a at*
     generalize (dg B32 y).getD j 0=b at*
     refine bnd_wu' (y:=a+4294967296) (by simp) (by rw [w64];omega) (bnd_wu' (y:=a+4294967296-(d+b)) (by omega) (by rw [w64];omega) ?_)
     exact push ho e2 rfl (by rw [w64];omega) (by omega) fun o' w4 ho' e4=>⟨a+4294967296-(d+b),1,rfl,by omega,by rw [b32];omega,by rw [b32];omega,ho',e4⟩
   rintro o' c' w4 ⟨z,d',rfl,hd',hz,he,ho',e4⟩
   refine bnd_wi (by omega) (by omega) ⟨dz x-(j+1),by omega,j+1,_,_,rfl,by omega,rfl,by omega,hd',by simp [hP],ho',hsm.snoc hz,?_,e4⟩
   rw [vl_snoc,hP,Nat.pow_succ,ga,gb]
   generalize (dg B32 x).getD j 0=a at*
   generalize (dg B32 y).getD j 0=b at*
   have:B32^j*z+B32^j*b+B32^j*d=B32^j*a+B32^j*B32*d':=by
    have:=congrArg (B32^j*·) he
    simp only [Nat.mul_add] at this
    rw [Nat.mul_assoc]
    exact this
   omega
  ·have hj:j=dz x:=by omega
   subst hj
   rw [vl_take_all (l:=dg B32 x) (by rw [dz_eq];exact Nat.le_refl _),vl_take_all (l:=dg B32 y) (by rw [dz_eq];exact hyx),vl_dg b2,vl_dg b2] at hv
   refine ⟨P,ho,hsm,?_,e2⟩
   have h1:=vl_lt hsm
   rw [hP] at h1
   have:d=0:=by
    rcases Nat.eq_zero_or_pos d with h|h
    ·exact h
    ·have:d=1:=by omega
     subst this;omega
   subst this;omega
 ·rintro o w2 ⟨P,ho,hsm,hv,e2⟩
  refine nm ho hsm fun s' w' e' h'=>rt1 (c:=.slice) _ (e2.trans e') ?_
  rw [hv] at h'
  exact h'.at
theorem ref_Cmp {w:TW} {s t:Sl} {x y:Nat} (hs:Dr w s x) (ht:Dr w t y):Ct Pg F.zigguratref02_Cmp [s.v,t.v] w none_ [.one (.int .i64)] fun (r:Int) _=>r=cmpN x y:=by
 refine Ct.zigguratref02_Cmp ?_
 unfold Sh.zigguratref02_Cmp
 have ls:=hs.len
 have lt:=ht.len
 have hle:=Rd.le hs
 rw [dz_eq] at hle
 refine cnd_i (fun h0=>?_) (fun h0=>?_)
 ·have h0:dz x≠dz y:=by intro h;simp [ls,lt,h] at h0
  refine cnd_d (fun h1=>?_) (fun h1=>?_)
  ·refine rt1 (c:=.int .i64) _ (Ext.refl _ _) ?_
   rw [cmpN,if_pos]
   exact Nat.lt_of_not_le fun h=>by have:=dz_mono h;omega
  ·refine rt1 (c:=.int .i64) _ (Ext.refl _ _) ?_
   have:¬x≤y:=fun h=>by have:=dz_mono h;omega
   rw [cmpN,if_neg (by omega),if_neg (by omega)]
 ·have h0:dz x=dz y:=by simp at h0;omega
  have hlx:=dz_eq x
  have hly:=dz_eq y
  refine bnd_wi (by omega) (by omega) ?_
  refine j0 (fun w'=>Ext none_ w.here w'∧x=y) ?_ ?_
  ·refine lp1 (fun k (i:Int) w'=>∃j:Nat,i=j-1∧k=j∧j≤dz x∧vl B32 ((dg B32 x).drop j)=vl B32 ((dg B32 y).drop j)∧Ext none_ w.here w') (dz x) ⟨dz x,by omega,rfl,Nat.le_refl _,?_,Ext.refl _ _⟩ ?_
   ·rw [List.drop_of_length_le (by omega),List.drop_of_length_le (by omega)]
   ·rintro k i w' ⟨j,rfl,rfl,hj,he,hx⟩
    refine cnd_d (fun h1=>?_) (fun h1=>?_)
    ·have hs1:=(Rd.ext hs.here hx).drew
     have ht1:=(Rd.ext ht.here hx).drew
     have e1:(k:Int)-1=(k-1:Nat):=by omega
     have hk:k-1<(dg B32 x).length:=by omega
     have hk2:k-1<(dg B32 y).length:=by omega
     refine hs1.idx e1 hk (ht1.idx e1 hk2 ?_)
     refine cnd_d (fun h2=>?_) (fun h2=>?_)
     ·refine rt1 (c:=.int .i64) _ hx.drew ?_
      have:=vl_lt_of_top (dg_sm b2 x) hk hk2 (by omega) (by rw [show k-1+1=k by omega,he];exact Nat.le_refl _)
      rw [vl_dg b2,vl_dg b2] at this
      rw [cmpN,if_pos this]
     ·refine hs1.drew.idx e1 hk (ht1.drew.idx e1 hk2 ?_)
      refine cnd_d (fun h3=>?_) (fun h3=>?_)
      ·refine rt1 (c:=.int .i64) _ hx.drew.drew ?_
       have:=vl_lt_of_top (dg_sm b2 y) hk2 hk (by omega) (by rw [show k-1+1=k by omega,he];exact Nat.le_refl _)
       rw [vl_dg b2,vl_dg b2] at this
       rw [cmpN,if_neg (by omega),if_neg (by omega)]
      ·refine bnd_wi (by omega) (by omega) ⟨k-1,by omega,k-1,by omega,rfl,by omega,?_,hx.drew.drew⟩
       rw [List.drop_eq_getElem_cons hk,List.drop_eq_getElem_cons hk2,show k-1+1=k by omega,vl_cons,vl_cons,he]
       omega
    ·refine ⟨hx,?_⟩
     have:k=0:=by omega
     subst this
     rw [List.drop_zero,List.drop_zero,vl_dg b2,vl_dg b2] at he
     exact he
  ·rintro w' ⟨hx,he⟩
   refine rt1 (c:=.int .i64) _ hx ?_
   rw [cmpN,if_neg (by omega),if_pos he]
theorem ref_Small {w:TW} {y:Nat} (hy:y<W64):Ct Pg F.zigguratref02_Small [.int .u64 y] w none_ [.one .slice] fun (s':Sl) w'=>Dn w' w.w.heap.size s' y:=by
 refine Ct.zigguratref02_Small ?_
 unfold Sh.zigguratref02_Small
 refine nw_u64 rfl hy fun b w1 h1 e1=>?_
 refine c1 (ref_From (s:=⟨some ⟨b,0,none⟩,1,1⟩) (x:=y) ⟨_,h1.rd,vl_one⟩ (by show 1≤_;omega)) ?_
 intro s' w2 e2 h2
 exact rt1 (c:=.slice) _ (e1.trans e2) (h2.less e1.size).at
end Go.Proofs.YtjhfalgmgagdhaaGreatDoor.Zg
end

section
namespace Go.Proofs.YtjhfalgmgagdhaaGreatDoor.Zg
open Go.RowKit
theorem vl_up {l:List Nat} {j:Nat}:vl B32 (l.take (2*(j+1)))=vl B32 (l.take (2*j))+W64^j*(l.getD (2*j) 0+l.getD (2*j+1) 0*B32):=by
 rw [show 2*(j+1)=2*j+1+1 by omega,vl_take_getD,vl_take_getD,Nat.pow_succ,show B32^(2*j)=W64^j by rw [Nat.pow_mul];rfl]
 grind
theorem ref_To {w:TW} {s:Sl} {x:Nat} (hs:Dr w s x) (hx:dz x≤274877906944):Ct Pg F.zigguratref02_To [s.v] w none_ [.one .slice] fun (s':Sl) w'=>On w' w.w.heap.size s' x:=by
 refine Ct.zigguratref02_To ?_
 unfold Sh.zigguratref02_To
 have ls:=hs.len
 have hs:=hs.here
 refine j1 (fun (o:Sl) w2=>∃P,Ow w2 w.here.w.heap.size o P∧vl W64 P=x∧Ext none_ w.here w2) ?_ ?_
 ·refine lp2 (fun m (o:Sl) (i:Int) w2=>∃(j:Nat) (P:List Nat),i=(2*j:Nat)∧m=dz x+1-2*j∧2*j≤dz x+1∧P.length=j∧Ow w2 w.here.w.heap.size o P∧vl W64 P=vl B32 ((dg B32 x).take (2*j))∧Ext none_ w.here w2) (dz x+1) ⟨0,[],rfl,by omega,by omega,rfl,Ow.nil _ _,by simp [vl_nil],Ext.refl _ _⟩ ?_
  rintro m o i w2 ⟨j,P,rfl,rfl,hj,hP,ho,hv,e2⟩
  refine cnd_d (fun h=>?_) (fun h=>?_)
  ·have ha:=hs.lt (2*j)
   have hb:=hs.lt (2*j+1)
   have hgo:=vl_up (l:=dg B32 x) (j:=j)
   have hj1:2*j<(dg B32 x).length:=by rw [dz_eq];omega
   refine (Rd.ext hs e2).ix rfl hj1 (bnd_wi (by omega) (by omega) ?_)
   refine j1 (fun (y:Int) w3=>w3=w2∧y=((dg B32 x).getD (2*j) 0+(dg B32 x).getD (2*j+1) 0*B32:Nat)) ?_ ?_
   ·refine cnd_d (fun h1=>?_) (fun h1=>?_)
    ·refine bnd_wi (by omega) (by omega) ((Rd.ext hs e2).ix (j:=2*j+1) (by omega) (by rw [dz_eq];omega) ?_)
     generalize (dg B32 x).getD (2*j) 0=a at*
     generalize (dg B32 x).getD (2*j+1) 0=b at*
     exact bnd_wu' (y:=b*B32) (by simp) (by rw [w64,b32];omega) (bnd_wu' (y:=a+b*B32) (by simp) (by rw [w64,b32];omega) ⟨rfl,rfl⟩)
    ·rw [getD_past (l:=dg B32 x) (k:=2*j+1) (by rw [dz_eq];omega)]
     exact ⟨rfl,by simp⟩
   rintro y w3 ⟨rfl,rfl⟩
   generalize (dg B32 x).getD (2*j) 0=a at*
   generalize (dg B32 x).getD (2*j+1) 0=b at*
   refine push ho e2 rfl (by rw [w64,b32];omega) (by omega) fun o' w4 ho' e4=>?_
   refine bnd_wi (by omega) (by omega) ⟨dz x+1-2*(j+1),by omega,j+1,_,by omega,rfl,by omega,by simp [hP],ho',?_,e4⟩
   rw [vl_snoc,hP,hgo,hv]
  ·refine ⟨P,ho,?_,e2⟩
   rw [hv,vl_take_all (l:=dg B32 x) (by rw [dz_eq];omega),vl_dg b2]
 ·rintro o w2 ⟨P,ho,hv,e2⟩
  refine j1 (fun (o:Sl) w3=>On w3 w.here.w.heap.size o x∧Ext none_ w.here w3) ?_ ?_
  ·refine lp1 (fun m (o:Sl) w3=>∃P,m=P.length∧Ow w3 w.here.w.heap.size o P∧vl W64 P=x∧Ext none_ w.here w3) P.length ⟨P,rfl,ho,hv,e2⟩ ?_
   clear ho hv e2 P
   rintro m o w3 ⟨P,rfl,ho,hv,e3⟩
   have lo:=ho.rd.len
   have hcap:=ho.rd.cap
   refine j1 (fun (b:Bool) w4=>w4=w3∧b=decide (∃h:0<P.length,P[P.length-1]=0)) ?_ ?_
   ·refine cnd_d (fun h0=>?_) (fun h0=>?_)
    ·refine bnd_wi (by omega) (by omega) (ho.rd.idx (j:=P.length-1) (by omega) (by omega) ⟨rfl,?_⟩)
     rw [Bool.eq_iff_iff]
     simp
     exact ⟨fun h=>⟨by omega,h⟩,fun ⟨_,h⟩=>h⟩
    ·exact ⟨rfl,by simp;omega⟩
   rintro b w4 ⟨rfl,rfl⟩
   refine cnd_d (fun h=>?_) (fun h=>?_)
   ·obtain ⟨h1,h2⟩:=h
    refine bnd_wi (by omega) (by omega) (slc_of (l:=0) (h:=P.length-1) rfl (by omega) (Nat.zero_le _) (by omega) ?_)
    refine ⟨P.length-1,by omega,P.take (P.length-1),by simp,ho.cut0 (by omega),?_,e3⟩
    rw [←hv]
    have:=vl_take_succ (b:=W64) (l:=P) (k:=P.length-1) (by omega)
    rw [show P.length-1+1=P.length by omega,List.take_of_length_le (Nat.le_refl _),h2,Nat.mul_zero,Nat.add_zero] at this
    exact this.symm
   ·refine ⟨?_,e3⟩
    have:dg W64 (vl W64 P)=P:=dg_of_last W2 ho.sm fun y hy h0=>h ?_
    ·rw [On,←hv,this];exact ho
    ·rw [List.getLast?_eq_getElem?] at hy
     obtain ⟨h1,h2⟩:=List.getElem?_eq_some_iff.1 hy
     exact ⟨by omega,by rw [h2];exact h0⟩
  ·rintro o w3 ⟨ho,e3⟩
   exact rt1 (c:=.slice) _ e3 ho.at
theorem ref_Same {w:TW} {s t:Sl} {x y:Nat} (hs:Dr w s x) (ht:Rd w t (dg W64 y)) (hx:dz x≤274877906944) (hxy:x=y):Ct Pg F.zigguratref02_Same [s.v,t.v] w none_ [.one .bool] fun (r:Bool) _=>r=true:=by
 subst hxy
 refine Ct.zigguratref02_Same ?_
 unfold Sh.zigguratref02_Same
 refine c1 (ref_To hs.here hx) ?_
 intro o w1 e1 ho
 have h1:=ho.len
 have ht:=ht.here.ext e1
 have h2:=ht.len
 rw [dg_len] at h2
 have hc:=ht.le
 rw [dg_len] at hc
 have ho:=ho.rd
 refine cnd_f (by simp;omega) ?_
 refine j0 (fun w'=>Ext none_ w1 w') ?_ fun w' e=>rt1 (c:=.bool) _ (e1.trans e) rfl
 refine lp1 (fun m (i:Int) w'=>∃j:Nat,i=j∧m=sz x-j∧j≤sz x∧Ext none_ w1 w') (sz x) ⟨0,rfl,by omega,by omega,Ext.refl _ _⟩ ?_
 rintro m i w' ⟨j,rfl,rfl,hj,e⟩
 refine cnd_d (fun h=>?_) (fun _=>e)
 refine (ho.ext e).drew.ix rfl (by rw [dg_len];omega) ((ht.ext e).drew.ix rfl (by rw [dg_len];omega) (cnd_f (by simp) ?_))
 exact bnd_wi (by omega) (by omega) ⟨sz x-(j+1),by omega,j+1,by omega,rfl,by omega,e.drew⟩
end Go.Proofs.YtjhfalgmgagdhaaGreatDoor.Zg
end

section
namespace Go.Proofs.YtjhfalgmgagdhaaGreatDoor.Zg
open Go.RowKit
theorem mulrow_step {p M L L' v a b c s1 c' A Q:Nat} (h1:s1+M*c'=v+a*b+c) (hL:L'+p*v=L+p*s1) (hi:L+p*c=A+Q*a):L'+p*M*c'=A+(Q+p*b)*a:=by
 have:p*s1+p*(M*c')=p*v+p*(a*b)+p*c:=by rw [←Nat.mul_add,h1];grind
 grind
theorem getD_set_ne {l:List Nat} {i k x:Nat} (h:i≠k):(l.set i x).getD k 0=l.getD k 0:=by simp [h]
theorem ref_Mul {w:TW} {s t:Sl} {x y:Nat} (hs:Dr w s x) (ht:Dr w t y) (hx:dz x≤274877906944) (hy:dz y≤274877906944):Ct Pg F.zigguratref02_Mul [s.v,t.v] w none_ [.one .slice] fun (s':Sl) w'=>Dn w' w.w.heap.size s' (x*y):=by
 refine Ct.zigguratref02_Mul ?_
 unfold Sh.zigguratref02_Mul
 have ls:=hs.len
 have lt:=ht.len
 have hs:=hs.here
 have ht:=ht.here
 refine bnd_wi (by omega) (by omega) (mk_u64 (N:=dz x+dz y) (by omega) (by omega) fun o w1 ho _ e1 _=>?_)
 refine j0 (fun w2=>∃P,Ow w2 w.here.w.heap.size o P∧Sm B32 P∧vl B32 P=x*y∧Ext none_ w.here w2) ?_ ?_
 ·refine lp1 (fun m (i:Int) w2=>∃(j:Nat) (P:List Nat),i=j∧m=dz x-j∧j≤dz x∧P.length=dz x+dz y∧Ow w2 w.here.w.heap.size o P∧Sm B32 P∧vl B32 P=vl B32 ((dg B32 x).take j)*y∧(∀k,j+dz y≤k→P.getD k 0=0)∧Ext none_ w.here w2) (dz x) ⟨0,_,rfl,by omega,by omega,by simp,ho,Sm.zeros (by decide) _,by rw [vl_zeros];simp [vl_nil],fun k _=>by simp [List.getElem?_replicate];split<;>rfl,e1⟩ ?_
  rintro m i w2 ⟨j,P,rfl,rfl,hj,hP,ho,hsm,hv,hz,e2⟩
  refine cnd_d (fun h=>?_) (fun h=>?_)
  ·have ha:=hs.lt j
   have hgo:=vl_take_getD B32 (dg B32 x) j
   have hj1:j<(dg B32 x).length:=by rw [dz_eq];omega
   refine j1 (fun (c:Int) w3=>∃(P:List Nat) (d:Nat),c=d∧d<B32∧P.length=dz x+dz y∧Ow w3 w.here.w.heap.size o P∧Sm B32 P∧vl B32 P+B32^(j+dz y)*d=vl B32 ((dg B32 x).take (j+1))*y∧(∀k,j+dz y≤k→P.getD k 0=0)∧Ext none_ w.here w3) ?_ ?_
   ·refine lp2 (fun m (c i:Int) w3=>∃(q d:Nat) (P:List Nat),c=d∧i=q∧m=dz y-q∧q≤dz y∧d<B32∧P.length=dz x+dz y∧Ow w3 w.here.w.heap.size o P∧Sm B32 P∧vl B32 P+B32^(j+q)*d=vl B32 ((dg B32 x).take j)*y+B32^j*vl B32 ((dg B32 y).take q)*(dg B32 x).getD j 0∧(∀k,j+dz y≤k→P.getD k 0=0)∧Ext none_ w.here w3) (dz y) ⟨0,0,P,rfl,rfl,by omega,by omega,by decide,hP,ho,hsm,by rw [hv];simp [vl_nil],hz,e2⟩ ?_
    clear ho hsm hv hz e2 hP P
    rintro m c i w3 ⟨q,d,P,rfl,rfl,rfl,hq,hd,hP,ho,hsm,hv,hz,e3⟩
    refine cnd_d (fun h1=>?_) (fun h1=>?_)
    ·have hb:=ht.lt q
     have hgb:=vl_take_getD B32 (dg B32 y) q
     have hjq:j+q<P.length:=by omega
     have hpv:=hsm.getD (by decide) (j+q)
     refine bnd_wi (by omega) (by omega) (ho.rd.drew.ix (j:=j+q) (by omega) hjq ?_)
     refine (Rd.ext hs e3).drew.ix rfl hj1 ((Rd.ext ht e3).drew.ix rfl (by rw [dz_eq];omega) ?_)
     have hset:=vl_set (b:=B32) hjq
     rw [show P[j+q]=P.getD (j+q) 0 by simp [hjq]] at hset
     generalize P.getD (j+q) 0=v at*
     generalize (dg B32 x).getD j 0=a at*
     generalize (dg B32 y).getD q 0=b at*
     rw [b32] at hd hpv
     have hab:a*b≤4294967295*4294967295:=Nat.mul_le_mul (by omega) (by omega)
     refine bnd_wu' (y:=a*b) (by simp) (by rw [w64];omega) (bnd_wu' (y:=v+a*b) (by simp) (by rw [w64];omega) (bnd_wu' (y:=v+a*b+d) (by simp) (by rw [w64];omega) (bnd_wi (by omega) (by omega) ?_)))
     refine remN (x:=v+a*b+d) (y:=4294967296) rfl rfl (by decide) ?_
     have hm:(v+a*b+d)%4294967296<B32:=Nat.mod_lt _ (by decide)
     refine ho.drew.store (j:=j+q) (by omega) hjq (bw hm) rfl fun w4 ho4 e4=>?_
     refine divNu (x:=v+a*b+d) (y:=4294967296) rfl rfl (by rw [w64];omega) (by decide) ?_
     refine bnd_wi (by omega) (by omega) ⟨dz y-(q+1),by omega,q+1,_,_,rfl,by omega,rfl,by omega,by rw [b32];omega,by simp [hP],ho4,hsm.set _ hm,?_,fun k hk=>?_,e3.drew.own e4 ho.blk_le⟩
     ·have hdm:=Nat.mod_add_div (v+a*b+d) 4294967296
      have hset:=hset ((v+a*b+d)%4294967296)
      rw [←Nat.add_assoc,Nat.pow_succ,hgb,Nat.mul_add,←Nat.mul_assoc,←Nat.pow_add]
      exact mulrow_step hdm hset hv
     ·exact (getD_set_ne (by omega)).trans (hz k hk)
    ·have:q=dz y:=by omega
     subst this
     refine ⟨P,d,rfl,hd,hP,ho,hsm,?_,hz,e3⟩
     rw [vl_take_all (l:=dg B32 y) (by rw [dz_eq];exact Nat.le_refl _),vl_dg b2] at hv
     rw [hv,hgo]
     grind
   ·clear ho hsm hv hz e2 hP P
    rintro c w3 ⟨P,d,rfl,hd,hP,ho,hsm,hv,hz,e3⟩
    have hjq:j+dz y<P.length:=by omega
    refine bnd_wi (by omega) (by omega) (ho.store (j:=j+dz y) (by omega) hjq (bw hd) rfl fun w4 ho4 e4=>?_)
    refine bnd_wi (by omega) (by omega) ⟨dz x-(j+1),by omega,j+1,_,by omega,rfl,by omega,by simp [hP],ho4,hsm.set _ hd,?_,fun k hk=>?_,e3.own e4 ho.blk_le⟩
    ·have hset:=vl_set (b:=B32) hjq d
     have h0:=hz _ (Nat.le_refl _)
     rw [show P[j+dz y]=P.getD (j+dz y) 0 by simp [hjq],h0,Nat.mul_zero,Nat.add_zero] at hset
     rw [hset,hv]
    ·exact (getD_set_ne (by omega)).trans (hz k (by omega))
  ·have:j=dz x:=by omega
   subst this
   rw [vl_take_all (l:=dg B32 x) (by rw [dz_eq];exact Nat.le_refl _),vl_dg b2] at hv
   exact ⟨P,ho,hsm,hv,e2⟩
 ·rintro w2 ⟨P,ho,hsm,hv,e2⟩
  refine nm ho hsm fun s' w' e' h'=>rt1 (c:=.slice) _ (e2.trans e') ?_
  rw [hv] at h'
  exact h'.at
def Rl (w:TW) (s:Sl) (ls:List (List Nat)):Prop:=∃ss:List Sl,Rdv w 1 s (ss.map Sl.v)∧ss.length=ls.length∧∀i t,ss[i]?=some t→Rd w t (ls.getD i [])
theorem Rl.rs {w:TW} {s:Sl} {ls:List (List Nat)} (h:Rl w s ls):Rs w s (ls.map (vl W64)):=by
 obtain ⟨ss,h1,h2,h3⟩:=h
 refine ⟨ss,h1,by simpa using h2,fun i t ht=>⟨_,h3 i t ht,?_⟩⟩
 have:i<ls.length:=by
  have:=(List.getElem?_eq_some_iff.1 ht).1
  omega
 simp [this]
theorem Rl.len {w:TW} {s:Sl} {ls:List (List Nat)} (h:Rl w s ls):s.n=ls.length:=by have:=h.rs.len;simpa using this
theorem Rl.here {w:TW} {s:Sl} {ls:List (List Nat)} (h:Rl w s ls):Rl w.here s ls:=h.imp fun _ h=>⟨h.1,h.2.1,fun i t ht=>(h.2.2 i t ht).here⟩
theorem Rl.ext {w w':TW} {s:Sl} {ls:List (List Nat)} (h:Rl w s ls) (hx:Ext none_ w w'):Rl w' s ls:=h.imp fun _ h=>⟨h.1.ext hx fun _ _ h=>h,h.2.1,fun i t ht=>(h.2.2 i t ht).ext hx⟩
theorem Rl.idx {w w':TW} {s:Sl} {ls:List (List Nat)} (h:Rl w s ls) (hx:Ext none_ w w') {i:Int} {j:Nat} (hi:i=j) (hj:j<ls.length) {K:Addr→Sl→Prop} (hK:∀a t,(∀w'',Ext none_ w w''→w''.w.cell? a=some t.v)→Rd w t (ls.getD j [])→K a t):ixa s i 1 (fun a=>ldc .slice w' a (K a)):=by
 subst hi
 have hl:=h.len
 obtain ⟨ss,h0,h5,h6⟩:=h
 have hjs:j<ss.length:=by omega
 have hne:ss.map Sl.v≠[]:=fun e=>by have:=congrArg List.length e;simp at this;subst this;simp at hjs
 obtain ⟨b,o,hp,_,hc⟩:=h0.2.2.2 hne
 have key:∀w'',Ext none_ w w''→w''.w.cell? ((⟨b,o,none⟩:Addr).add (j*1))=some (ss[j].v):=fun w'' e'=>by
  obtain ⟨b',o',hp',_,hc⟩:=(h0.ext e' fun _ _ h=>h).2.2.2 hne
  rw [hp] at hp'
  injection hp' with hp'
  injection hp' with h1 h2
  subst h1 h2
  rw [Nat.mul_one,Addr.add_mk]
  exact hc j _ (by simp [hjs])
 exact ⟨⟨b,o,none⟩,hp,by omega,by omega,ss[j],key w' hx,hK _ _ key (h6 j _ (by simp [hjs]))⟩
theorem dz_mul (x y:Nat):dz (x*y)≤dz x+dz y:=by
 refine dz_pow ?_
 rw [Nat.pow_add]
 exact Nat.mul_lt_mul'' (dz_lt x) (dz_lt y)
end Go.Proofs.YtjhfalgmgagdhaaGreatDoor.Zg
end

section
namespace Go.Proofs.YtjhfalgmgagdhaaGreatDoor.Zg
open Go.RowKit
theorem dg_getD {b:Nat} (hb:2≤b) (x:Nat):∀k,(dg b x).getD k 0=x/b^k%b:=by
 intro k
 induction k generalizing x with
 | zero=>
  rcases Nat.eq_zero_or_pos x with h|h
  ·subst h;simp [dg_zero]
  ·rw [dg_pos hb h];simp
 | succ k ih=>
  rcases Nat.eq_zero_or_pos x with h|h
  ·subst h;simp [dg_zero]
  ·rw [dg_pos hb h]
   have:=ih (x/b)
   rw [Nat.div_div_eq_div_mul,Nat.mul_comm b,←Nat.pow_succ] at this
   simpa using this
end Go.Proofs.YtjhfalgmgagdhaaGreatDoor.Zg
end

section
namespace Go.Proofs.YtjhfalgmgagdhaaGreatDoor.Zg
open Go.RowKit
theorem Own.nil (w:TW) (B:Nat) (e:TypeId):Own w B e 1 Sl.nil (([]:List Sl).map Sl.v):=⟨⟨rfl,.inl ⟨rfl,rfl⟩⟩,fun b h=>by simp [Sl.blk] at h⟩
end Go.Proofs.YtjhfalgmgagdhaaGreatDoor.Zg
end

section
namespace Go.Proofs.YtjhfalgmgagdhaaGreatDoor.Zg
open Go.RowKit
def Arg (w:TW) (s:Sl):Prop:=∃l,Rd w s l
theorem dz_of_sz {x k:Nat} (h:sz x≤k):dz x≤2*k:=Nat.le_trans (dz_sz x) (Nat.mul_le_mul_left _ h)
theorem cmp_ge {x y:Nat}:decide (cmpN x y≥0)=decide (y≤x):=by
 rw [Bool.eq_iff_iff,decide_eq_true_iff,decide_eq_true_iff]
 have:=@cmpN_neg x y
 omega
def ArgL (w:TW) (s:Sl):Prop:=∃ls,Rl w s ls
theorem Ow.extB {w w':TW} {X:Nat→Prop} {B:Nat} {s:Sl} {l:List Nat} (h:Ow w B s l) (hx:Ext X w w') (hX:∀b,X b→b<B):Ow w' B s l:=
 h.extX hx fun c hc h'=>by have:=h.blk_le c hc;have:=hX c h';omega
end Go.Proofs.YtjhfalgmgagdhaaGreatDoor.Zg
end

section
namespace Go.Proofs.YtjhfalgmgagdhaaGreatDoor.Zg
open Go.RowKit
def TW.of (W:World):TW:=⟨W,fun _=>False,W.heap.size,fun _ h=>h.elim⟩
theorem law_of {P:Program} {f:FuncId} {args:List Value} {W:World} (h:Ct P f args (TW.of W) none_ [.one .bool] fun (r:Bool) _=>r=true):Calls P f args.toArray W fun e w'=>e=.returned (.bool true)∧Below W.heap.size W w':=by
 refine Calls.mono h ?_
 rintro e w' ⟨⟨r,_⟩,T',rfl,rfl,hx,hr⟩
 have hr:r=true:=hr
 subst hr
 exact ⟨rfl,hx.os,hx.tape,hx.output,hx.size,fun k hk=>hx.block k hk (fun h=>h) (.inl hk)⟩
def IsRow (k:IntKind) (w:World) (a:Option Addr) (len cap:Nat) (zs:List Int):Prop:=
 (a=none∧len=0∧cap=0∧zs=[])∨
 ∃x,a=some x∧len≤cap∧cap≤maxLen∧zs.length=cap∧(∀i,i<zs.length→w.cell? (x.add i)=some (.int k (zs.getD i 0)))∧∀n∈zs,(Lit.int k n).wf=true
theorem u64_of {n:Int} (h:(Lit.int .u64 n).wf=true):∃m:Nat,n=m∧m<W64:=by
 simp only [Lit.wf,Bool.and_eq_true,decide_eq_true_eq] at h
 have h1:IntKind.u64.min=0:=by decide
 have h2:IntKind.u64.max=18446744073709551615:=by decide
 rw [h1,h2] at h
 exact ⟨n.toNat,by omega,by rw [w64];omega⟩
theorem i64_of {n:Int} (h:(Lit.int .i64 n).wf=true):-9223372036854775808≤n∧n≤9223372036854775807:=by
 simp only [Lit.wf,Bool.and_eq_true,decide_eq_true_eq] at h
 have h1:IntKind.i64.min=-9223372036854775808:=by decide
 have h2:IntKind.i64.max=9223372036854775807:=by decide
 rwa [h1,h2] at h
theorem u64s_of {zs:List Int} (h:∀n∈zs,(Lit.int .u64 n).wf=true):∃l:List Nat,zs=l.map Int.ofNat∧Sm W64 l:=by
 induction zs with
 | nil=>exact ⟨[],rfl,Sm.nil _⟩
 | cons z zs ih=>
  obtain ⟨l,h1,h2⟩:=ih fun n hn=>h n (List.mem_cons_of_mem _ hn)
  obtain ⟨m,h3,h4⟩:=u64_of (h z (List.mem_cons_self ..))
  exact ⟨m::l,by simp [h1,h3],Sm.cons h4 h2⟩
theorem cell_spot {w:World} {a:Addr} {v:Value} (h:w.cell? a=some v):a.spot=none:=by
 unfold World.cell? at h
 split at h
 ·split at h
  ·cases h
  ·rename_i hs;simpa using hs
 ·cases h
theorem arg_of {W:World} {a:Option Addr} {len cap:Nat} {zs:List Int} (h:IsRow .u64 W a len cap zs):Arg (TW.of W) ⟨a,len,cap⟩:=by
 rcases h with ⟨rfl,rfl,rfl,rfl⟩|⟨x,rfl,hl,hc,hz,hcell,hwf⟩
 ·exact ⟨[],Rd.nil _⟩
 ·obtain ⟨l,rfl,hs⟩:=u64s_of hwf
  have hll:l.length=cap:=by simpa using hz
  refine ⟨l.take len,⟨by simp;omega,hl,hc,fun hne=>?_⟩,hs.take _⟩
  have hpos:0<len:=by
   rcases Nat.eq_zero_or_pos len with h|h
   ·subst h;exact absurd (by simp) hne
   ·exact h
  have h0:=hcell 0 (by simp;omega)
  have hspot:=cell_spot h0
  obtain ⟨b,o,sp⟩:=x
  rw [show (Addr.add ⟨b,o,sp⟩ 0)=⟨b,o,sp⟩ by rfl] at hspot
  simp only at hspot
  subst hspot
  refine ⟨b,o,rfl,fun h=>h,fun j v hj=>?_⟩
  have hjl:j<l.length:=by
   rcases Nat.lt_or_ge j l.length with h|h
   ·exact h
   ·simp only [List.map_take,List.getElem?_take] at hj
    split at hj
    ·simp [h] at hj
    ·cases hj
  have:=hcell j (by simpa using hjl)
  rw [Addr.add_mk] at this
  refine Eq.trans this ?_
  simp only [List.map_take,List.getElem?_take] at hj
  split at hj
  ·rw [←hj];simp [hjl]
  ·cases hj
end Go.Proofs.YtjhfalgmgagdhaaGreatDoor.Zg
end

section
namespace Go.Proofs.YtjhfalgmgagdhaaGreatDoor.Zg
open Go.RowKit
def IsRows (k:IntKind) (w:World) (a:Option Addr) (len cap:Nat):Prop:=
 (a=none∧len=0∧cap=0)∨
 ∃(x:Addr) (A:Nat→Option Addr) (L C:Nat→Nat) (Z:Nat→List Int),a=some x∧len≤cap∧cap≤maxLen∧
  ∀r,r<cap→w.cell? (x.add r)=some (.slice (A r) (L r) (C r))∧IsRow k w (A r) (L r) (C r) (Z r)
theorem isRow_of {k:IntKind} {w:World} {a:Option Addr} {len cap:Nat} {zs:List Int} (h1:len≤cap) (h2:cap≤maxLen) (h3:zs.length=cap) (h4:∀n∈zs,(Lit.int k n).wf=true) (h5:a=none→cap=0) (h6:∀a',a=some a'→∀c,c<cap→w.cell? (a'.add c)=some (.int k (zs.getD c 0))):IsRow k w a len cap zs:=by
 cases a with
 | none=>
  have:=h5 rfl
  subst this
  exact .inl ⟨rfl,by omega,rfl,List.length_eq_zero_iff.1 h3⟩
 | some a=>exact .inr ⟨a,rfl,h1,h2,h3,fun i hi=>h6 a rfl i (by omega),h4⟩
theorem argL_of {W:World} {a:Option Addr} {len cap:Nat} (h:IsRows .u64 W a len cap):ArgL (TW.of W) ⟨a,len,cap⟩:=by
 rcases h with ⟨rfl,rfl,rfl⟩|⟨x,A,L,C,Z,rfl,hl,hc,hr⟩
 ·exact ⟨[],[],⟨rfl,Nat.le_refl _,by decide,fun h=>absurd rfl h⟩,rfl,fun i t h=>by simp at h⟩
 ·have hrow:∀r,∃l,r<len→Rd (TW.of W) ⟨A r,L r,C r⟩ l:=fun r=>by
   by_cases h:r<len
   ·obtain ⟨l,hl⟩:=arg_of (hr r (by omega)).2
    exact ⟨l,fun _=>hl⟩
   ·exact ⟨[],fun h'=>absurd h' h⟩
  refine ⟨(List.range len).map fun r=>Classical.choose (hrow r),(List.range len).map fun r=>⟨A r,L r,C r⟩,⟨by simp,hl,hc,fun hne=>?_⟩,by simp,fun i t hi=>?_⟩
  ·have hpos:0<len:=by
    rcases Nat.eq_zero_or_pos len with h|h
    ·subst h;exact absurd (by simp) hne
    ·exact h
   have h0:=(hr 0 (by omega)).1
   have hspot:=cell_spot h0
   obtain ⟨b,o,sp⟩:=x
   rw [show (Addr.add ⟨b,o,sp⟩ 0)=⟨b,o,sp⟩ by rfl] at hspot
   simp only at hspot
   subst hspot
   refine ⟨b,o,rfl,fun h=>h,fun j v hj=>?_⟩
   have hjl:j<len:=by
    have:=(List.getElem?_eq_some_iff.1 hj).1
    simpa using this
   have:=(hr j (by omega)).1
   rw [Addr.add_mk] at this
   refine Eq.trans this ?_
   rw [←hj]
   simp [hjl]
  ·have hil:i<len:=by
    have:=(List.getElem?_eq_some_iff.1 hi).1
    simpa using this
   have:=Classical.choose_spec (hrow i) hil
   simp [hil] at hi
   subst hi
   simpa [hil] using this
end Go.Proofs.YtjhfalgmgagdhaaGreatDoor.Zg
end
