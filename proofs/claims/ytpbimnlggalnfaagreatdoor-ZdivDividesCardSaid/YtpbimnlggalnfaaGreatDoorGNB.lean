/- A part of the proofs of this seat's laws. -/
import Derived.Test.YtpbimnlggalnfaaGreatDoorGNA
import Derived.Test.YtpbimnlggalnfaaGreatDoorGMD
import Derived.Test.YtpbimnlggalnfaaGreatDoorGJA
import Derived.Test.YtpbimnlggalnfaaGreatDoorGP2
import Derived.Test.YtpbimnlggalnfaaGreatDoorGHD
set_option linter.unusedVariables false
set_option linter.unusedSimpArgs false
set_option linter.unnecessarySimpa false
namespace Go.Proofs.YtpbimnlggalnfaaGreatDoor.Zg
open Go.RowKit
section
variable {i k t:Nat} {l la:List Nat} {a:Sl} {K:Sl→TW→Prop}
def Op(w:TW)(B:Nat)(s:Sl)(n:Nat)(f:Nat→Nat):Prop:=∃l,Ow w B s l∧l.length≤n∧∀i,l.getD i 0=f i
section
variable {w w':TW} {B B' n:Nat} {s:Sl} {f g:Nat→Nat}
theorem Op.ext(h:Op w B s n f)(e:Ext aa w w'):Op w' B s n f:=h.imp λ_ h=>⟨h.1.ext e,h.2⟩
theorem Op.extT(h:Op w B s n f)(hT:Tz w t)(e:Xt1 t w w'):Op w' B s n f:=h.imp λ_ h=>⟨h.1.extT hT e,h.2⟩
theorem Op.less(h:Op w B s n f)(e:B'≤B):Op w B' s n f:=h.imp λ_ h=>⟨h.1.less e,h.2⟩
theorem Op.at(h:Op w B s n f):Op (w.at k) B s n f:=h.imp λ_ h=>⟨h.1.at,h.2⟩
theorem Op.of(h:Op w B s n f){m:Nat}(hm:n≤m)(hf:∀i,f i=g i):Op w B s m g:=h.imp λ_ h=>⟨h.1,Nat.le_trans h.2.1 hm,λi=>(h.2.2 i).trans (hf i)⟩
end
theorem sK{s:Sl}{n k:Nat}:(s.cut 0 n k).p=s.p:=by
 simp only [Sl.cut];split
 ·rfl
 ·cases h:s.p with
  | none=>rfl
  | some a=>obtain⟨b,o,x⟩:=a;simp [Addr.add]
theorem adG(s:Sl)(a b k:Nat):(s.cut 0 a k).cut 0 b k=s.cut 0 b k:=by
 have h1:((s.cut 0 a k).cut 0 b k).p=(s.cut 0 b k).p:=by rw [sK,sK,sK]
 cases s;simp only [Sl.cut] at h1 ⊢;rw [Sl.mk.injEq];exact⟨h1,rfl,rfl⟩
theorem adH{s:Sl}{n:Nat}(h:s.n=n):s.cut 0 n k=s:=by
 have h1:=@sK s n k;cases s;simp only [Sl.cut] at h1 h ⊢;rw [Sl.mk.injEq];exact⟨h1,om,rfl⟩
theorem pP(l:List Nat)(m i:Nat):(l.take m).getD i 0=if i<m then l.getD i 0 else 0:=by
 simp only [List.getD_eq_getElem?_getD,List.getElem?_take];split<;>rfl
theorem eW(h:l.length≤i):l.getD i 0=0:=by
 rw [List.getD_eq_getElem?_getD,List.getElem?_eq_none h];rfl
theorem i5{j x:Nat}(hj:j<l.length)(i:Nat):(l.set j x).getD i 0=if i=j then x else l.getD i 0:=by
 simp only [List.getD_eq_getElem?_getD,List.getElem?_set];by_cases h:i=j
 ·subst h;simp [hj]
 ·rw [if_neg (λh'=>h h'.symm),if_neg h]
theorem tF{w:TW}(ha:Rd w a l)(hK:∀k,k≤l.length→(∀i,(l.take k).getD i 0=l.getD i 0)→K (a.cut 0 k 1) w):
  Jn [.slice] (λJ0=>Lp [.slice] (λ(a1:Sl) w1 C0=>Jn [.bool] (λJ1=>cond (decide (((a1.n:Int):Int)>0)) (bnd (wi ((a1.n:Int)-1)) λn=>ixa a1 n 1 λa2=>ldc (.int .u64) w1 a2 λ(v:Int)=>J1 ((v:Int) == 0) w1) (J1 false w1)) λ(x:Bool) w2=>cond x (bnd (wi ((a1.n:Int)-1)) λn1=>slc a1 0 n1 1 λs=>C0 s w2) (J0 a1 w2)) a w) K:=by
 have na:=ha.len;have hcap:=ha.cap;refine j1 (λ(s':Sl) w'=>(∃k,k≤l.length∧s'=a.cut 0 k 1∧∀i,(l.take k).getD i 0=l.getD i 0)∧w'=w) ?_ ?_
 ·refine lp1 (λm (x:Sl) w1=>m≤l.length∧x=a.cut 0 m 1∧(∀i,(l.take m).getD i 0=l.getD i 0)∧w1=w) l.length ⟨Nat.le_refl _,(adH na).symm,λi=>by rw [List.take_of_length_le (Nat.le_refl _)],rfl⟩ ?_;rintro m x w1 ⟨hm,rfl,hp,rfl⟩;have hr:=ha.cut (Nat.zero_le m) hm;rw [List.drop_zero] at hr;have nr:=hr.len;rw [List.length_take,Nat.min_eq_left hm] at nr;refine j1 (λ(b:Bool) w2=>b=decide (0<m∧l.getD (m-1) 0=0)∧w2=w1) ?_ ?_
  ·refine ac (λh=>?_) (λh=>?_)
   ·refine ab om om (hr.ix (j:=m-1) om (by rw [List.length_take];omega) ⟨?_,rfl⟩);rw [pP,if_pos om];rw [Bool.eq_iff_iff,decide_eq_true_iff];simp;omega
   ·refine⟨?_,rfl⟩;symm;rw [decide_eq_false_iff_not];omega
  rintro b w2 ⟨rfl,rfl⟩;refine ac (λh=>?_) (λh=>?_)
  ·refine ab om om ⟨om,om,by simp [Sl.cut];omega,m-1,om,om,?_,λi=>?_,rfl⟩
   ·rw [show (((a.cut 0 m 1).n:Int)-1).toNat=m-1 by omega];exact adG a m (m-1) 1
   ·rw [←hp i,pP,pP];by_cases hi:i<m-1
    ·rw [if_pos hi,if_pos om]
    ·rw [if_neg hi];by_cases h2:i<m
     ·rw [if_pos h2,show i=m-1 by omega,h.2]
     ·rw [if_neg h2]
  ·exact⟨⟨m,hm,rfl,hp⟩,rfl⟩
 rintro s' w' ⟨⟨k,h1,rfl,h2⟩,rfl⟩;exact hK k h1 h2
theorem polyp_trim{w:TW}(ha:Rd w a l):Ct Pg F.fG [a.v] w aa [.one .slice] λ(s':Sl) _=>∃k,k≤l.length∧s'=a.cut 0 k 1∧∀i,(l.take k).getD i 0=l.getD i 0:=by
 refine Ct.fG ?_;unfold Sh.fG;exact tF ha.here λk h1 h2=>rt1 (c:=.slice) _ (Ext.refl _ _) ⟨k,h1,rfl,h2⟩
theorem pf{w:TW}{B:Nat}(ha:Ow w B a l)(hK:∀s w',Ext aa w w'→Op w' B s l.length (λi=>l.getD i 0)→K s w'):cl Pg F.fG [a.v] w [.one .slice] K:=by
 refine c1 (polyp_trim ha.rd) ?_;rintro s w' e ⟨k,hk,rfl,hg⟩;exact hK _ w' e ⟨_,(ha.cut0 hk).ext e,by rw [List.length_take];omega,hg⟩
def Rg(w:TW)(p:Option Addr)(q:Nat):Prop:=∃r mp,p=some ⟨r,0,none⟩∧Rw w r [.pointer mp]∧Md w mp q
section
variable {w w':TW} {p:Option Addr} {q:Nat}
theorem Rg.ext(h:Rg w p q)(e:Ext aa w w'):Rg w' p q:=by obtain⟨r,m,h1,h2,h3⟩:=h;exact⟨r,m,h1,h2.ext e,h3.ext e⟩
theorem Rg.here(h:Rg w p q):Rg w.here p q:=by obtain⟨r,m,h1,h2,h3⟩:=h;exact⟨r,m,h1,h2.here,h3.here⟩
theorem Rg.at(h:Rg w p q):Rg (w.at k) p q:=by obtain⟨r,m,h1,h2,h3⟩:=h;exact⟨r,m,h1,h2.mv,h3.at⟩
theorem Rg.drew(h:Rg w p q):Rg w.drew p q:=by obtain⟨r,m,h1,h2,h3⟩:=h;exact⟨r,m,h1,h2.drew,h3.drew⟩
theorem Rg.extT(h:Rg w p q)(hT:Tz w t)(e:Xt1 t w w'):Rg w' p q:=by obtain⟨r,m,h1,h2,h3⟩:=h;exact⟨r,m,h1,h2.extT hT smp e,h3.extT hT e⟩
theorem Rg.rng(h:Rg w p q):3≤q∧q<4611686018427387904∧q%2=1:=by obtain⟨_,_,_,_,h⟩:=h;exact h.rng
theorem Rg.md(h:Rg w p q){K:Addr→Option Addr→Prop}(hK:∀a m,Hc w a (.pointer m)→Md w m q→K a m):nck p λa=>ldc (.ptr) w a λ(v:Option Addr)=>K a v:=by
 obtain⟨r,m,rfl,h2,h3⟩:=h;have hc:=h2.cell 0;exact ah ⟨m,hc,hK _ m ⟨hc,h2.V⟩ h3⟩
theorem polyp_New{p:Nat}(hw:Gl w)(h3:3≤p)(hlt:p<4611686018427387904)(hodd:p%2=1)(hP:isP p=true):Ct Pg F.jL [.int .u64 p] w aa [.one .ptr,.one (.int .i64)] λ(m:Option Addr)(e:Int) w'=>e=0∧Rg w' m p:=by
 refine Ct.jL ?_;unfold Sh.jL;refine c2 (prime_Mod hw.here h3 hlt hodd hP) ?_;rintro m e w1 e1 ⟨rfl,hm,-⟩;refine ap smp ?_;refine yd λb w2 h2 _ e2=>?_
 exact rt2 (c:=.ptr) (d:=.int .i64) (some ⟨b,0,none⟩) 0 (e1.trans e2) ⟨rfl,b,m,rfl,h2.mv,(hm.ext e2).at⟩
theorem je(hR:Rg w p q)(ha:Rd w a la)(hn:la.length≤1099511627776):Ct Pg F.aw [.pointer p,a.v] w aa [.one .slice] λ(s:Sl) w'=>Op w' w.w.heap.size s la.length (λi=>la.getD i 0%q):=by
 refine Ct.aw ?_;unfold Sh.aw;have na:=ha.len;have hq:=hR.rng;refine bW (N:=la.length) om om λs w1 h1 n1 e1 b1=>?_
 refine j0 (λw5=>(∃l,Ow w5 w.w.heap.size s l∧l.length=la.length∧∀i,l.getD i 0=la.getD i 0%q)∧Ext aa w.here w5) ?_ ?_
 ·refine lp1 (λm (x:Int) w2=>∃j l,x=(j:Nat)∧m=la.length-j∧j≤la.length∧Ow w2 w.w.heap.size s l∧l.length=la.length∧(∀i,i<j→l.getD i 0=la.getD i 0%q)∧Ext aa w.here w2) la.length ⟨0,_,rfl,om,om,h1,smp,λi h=>(by omega),e1⟩ ?_;rintro m x w2 ⟨j,l,rfl,rfl,hj,ho,hl,hg,e2⟩;refine ac (λh=>?_) (λh=>?_)
  ·refine (ha.here.ext e2).ix (j:=j) rfl om ?_;refine (hR.here.ext e2).md λa2 m _ hm=>?_
   refine c1 (rh hm) ?_;rintro r w3 e3 rfl;refine (ho.ext e3).store (j:=j) rfl om (Nat.lt_trans (Nat.mod_lt _ om) (show q<W64 by rw [w64];omega)) rfl λw4 h4 e4=>?_
   refine ab om om ⟨la.length-(j+1),om,j+1,_,om,rfl,om,h4,by simp [hl],λi hi=>?_,(e2.trans e3).own e4 λc hc=>(ho.from_ c hc).1⟩;rw [i5 om];by_cases h':i=j
   ·rw [if_pos h',h']
   ·rw [if_neg h'];exact hg i om
  ·refine⟨⟨l,ho,hl,λi=>?_⟩,e2⟩;rcases Nat.lt_or_ge i j with hi|hi
   ·exact hg i hi
   ·rw [eW om,eW om];simp
 rintro w5 ⟨⟨l,ho,hl,hg⟩,e5⟩;refine pf ho λs1 w6 e6 h6=>?_
 exact rt1 (c:=.slice) _ (e5.trans e6) (h6.of om hg).at
theorem polyp_at(ha:Rd w a la)(hi:i≤1099511627776):Ct Pg F.jV [a.v,.int .i64 i] w aa [.one (.int .u64)] λ(r:Int) w'=>r=(la.getD i 0:Nat):=by
 refine Ct.jV ?_;unfold Sh.jV;have na:=ha.len;refine ac (λh=>?_) (λh=>?_)
 ·exact ha.here.ix (j:=i) rfl om (rt1 (c:=.int .u64) _ (Ext.refl _ _) rfl)
 ·exact rt1 (c:=.int .u64) _ (Ext.refl _ _) (by rw [eW om];rfl)
theorem ww{b:Sl}{lb:List Nat}(hR:Rg w p q)(ha:Rd w a la)(hb:Rd w b lb)(hn:la.length≤1099511627776)(hm:lb.length≤1099511627776):Ct Pg F.es [.pointer p,a.v,b.v] w aa [.one .slice] λ(s:Sl) w'=>Op w' w.w.heap.size s (max la.length lb.length) (λi=>(la.getD i 0%q+q-lb.getD i 0%q)%q):=by
 refine Ct.es ?_;unfold Sh.es;have na:=ha.len;have nb:=hb.len;have hq:=hR.rng;obtain⟨N,hN⟩:∃N,N=max la.length lb.length:=⟨_,rfl⟩;refine ag (y:=(N:Int)) (by split<;>omega) ?_;refine bW (N:=N) rfl om λs w1 h1 n1 e1 b1=>?_
 rw [n1];refine j0 (λw5=>(∃l,Ow w5 w.w.heap.size s l∧l.length=N∧∀i,l.getD i 0=(la.getD i 0%q+q-lb.getD i 0%q)%q)∧Ext aa w.here w5) ?_ ?_
 ·refine lp1 (λm (x:Int) w2=>∃j l,x=(j:Nat)∧m=N-j∧j≤N∧Ow w2 w.w.heap.size s l∧l.length=N∧(∀i,i<j→l.getD i 0=(la.getD i 0%q+q-lb.getD i 0%q)%q)∧Ext aa w.here w2) N ⟨0,_,rfl,om,om,h1,smp,λi h=>(by omega),e1⟩ ?_;rintro m x w2 ⟨j,l,rfl,rfl,hj,ho,hl,hg,e2⟩;refine ac (λh=>?_) (λh=>?_)
  ·have e2d:=e2.drew;refine (hR.here.ext e2).drew.md λa2 m hc hm=>?_
   refine c1 (polyp_at (ha.here.ext e2d) om) ?_;rintro r w3 e3 rfl;refine kG (hc.ext e3).1 ?_;refine c1 (polyp_at (hb.here.ext (e2d.trans e3)) om) ?_;rintro r w4 e4 rfl;refine kG (hc.ext (e3.trans e4)).1 ?_;refine c1 (rf (hm.ext (e3.trans e4))) ?_;rintro r w5 e5 rfl;have e25:Ext aa w2 w5:=(((Ext.refl _ _).drew.trans e3).trans e4).trans e5;refine (ho.ext e25).store (j:=j) rfl om (Nat.lt_trans (Nat.mod_lt _ om) (show q<W64 by rw [w64];omega)) rfl λw6 h6 e6=>?_
   refine ab om om ⟨N-(j+1),om,j+1,_,om,rfl,om,h6,by simp [hl],λi hi=>?_,(e2.trans e25).own e6 λc hc=>(ho.from_ c hc).1⟩;rw [i5 om];by_cases h':i=j
   ·rw [if_pos h',h']
   ·rw [if_neg h'];exact hg i om
  ·refine⟨⟨l,ho,hl,λi=>?_⟩,e2⟩;rcases Nat.lt_or_ge i j with hi|hi
   ·exact hg i hi
   ·rw [eW om,eW om,eW om];simp
 rintro w5 ⟨⟨l,ho,hl,hg⟩,e5⟩;refine pf ho λs1 w6 e6 h6=>?_
 exact rt1 (c:=.slice) _ (e5.trans e6) (h6.of om hg).at
end
end
section
variable {la lb:List Nat} {a:Sl} {ls:List (List Nat)}
theorem mC(N k:Nat):(List.replicate N 0).getD k 0=0:=by
 rw [List.getD_eq_getElem?_getD,List.getElem?_replicate];split<;>rfl
theorem uT{f:Nat→Nat}{n:Nat}(h:∀u,n≤u→f u=0):∀{m:Nat},n≤m→sgN m f=sgN n f
 | 0,hm=>by rw [show n=0 by omega]
 | m+1,hm=>by
  rcases Nat.lt_or_ge m n with h1|h1
  ·rw [show n=m+1 by omega]
  ·rw [sgN,h m h1,Nat.add_zero,uT h h1]
theorem wX{q:Nat}{f g:Nat→Nat}(h:∀u,f u%q=g u%q):∀n,sgN n f%q=sgN n g%q
 | 0=>rfl
 | n+1=>by rw [sgN,sgN,Nat.add_mod,wX h n,h n,←Nat.add_mod]
theorem uE{q:Nat}{la' lb':List Nat}(ha:∀i,la'.getD i 0%q=la.getD i 0%q)(hb:∀i,lb'.getD i 0%q=lb.getD i 0%q)(k:Nat):cv la' lb' k%q=cv la lb k%q:=
 wX (λu=>by rw [Nat.mul_mod,ha u,hb (k-u),←Nat.mul_mod]) _
def cvi(la lb:List Nat)(i k:Nat):Nat:=sgN (min i (k+1)) λu=>la.getD u 0*lb.getD (k-u) 0
theorem abx(la lb:List Nat)(i k:Nat):cvi la lb (i+1) k=cvi la lb i k+if i≤k then la.getD i 0*lb.getD (k-i) 0 else 0:=by
 unfold cvi;split
 ·rename_i h;rw [show min (i+1) (k+1)=i+1 by omega,show min i (k+1)=i by omega,sgN]
 ·rename_i h;rw [show min (i+1) (k+1)=k+1 by omega,show min i (k+1)=k+1 by omega];rfl
theorem acM(la lb:List Nat)(k:Nat):cvi la lb la.length k=cv la lb k:=by
 unfold cvi cv;rcases Nat.le_total la.length (k+1) with h|h
 ·rw [Nat.min_eq_left h];exact (uT (λu hu=>by rw [eW hu,Nat.zero_mul]) h).symm
 ·rw [Nat.min_eq_right h]
theorem aao{k:Nat}(h:la.length+lb.length≤k+1):cv la lb k=0:=by
 unfold cv;rw [fK (g:=λ_=>0) λu _=>?_,me];rcases Nat.lt_or_ge u la.length with h1|h1
 ·rw [eW (l:=lb) om,Nat.mul_zero]
 ·rw [eW h1,Nat.zero_mul]
section
variable {w w':TW} {p:Option Addr} {q:Nat}
theorem qQ{b:Sl}(hR:Rg w p q)(ha:Rd w a la)(hb:Rd w b lb)(hn:la.length≤1073741824)(hm:lb.length≤1073741824):Ct Pg F.dk [.pointer p,a.v,b.v] w aa [.one .slice] λ(s:Sl) w'=>Op w' w.w.heap.size s (la.length+lb.length-1) (λi=>cv la lb i%q):=by
 refine Ct.dk ?_;unfold Sh.dk;have hq:=hR.rng;refine c1 (je hR.here ha.here om) ?_;rintro s w1 e1 ⟨ma,hA,nA,gA⟩;refine c1 (je (hR.here.ext e1) (hb.here.ext e1) om) ?_;rintro s1 w2 e2 ⟨mb,hB,nB,gB⟩;have hA:=hA.ext e2;have n1:=hA.rd.len;have n2:=hB.rd.len;have e12:=e1.trans e2;have hcv:∀k,cv ma mb k%q=cv la lb k%q:=uE (λi=>by rw [gA i,Nat.mod_mod]) (λi=>by rw [gB i,Nat.mod_mod]);refine j1 (λ(x:Bool) w3=>x=decide (ma.length=0∨mb.length=0)∧w3=w2) ?_ ?_
 ·refine aG (λh=>⟨?_,rfl⟩) (λh=>⟨?_,rfl⟩)
  ·symm;rw [decide_eq_true_iff];left;simp at h;omega
  ·have h:¬ma.length=0:=λh'=>by rw [n1,h'] at h;simp at h
   rw [Bool.eq_iff_iff,decide_eq_true_iff];constructor
   ·intro h';right;simp at h';omega
   ·rintro (h'|h')
    ·exact absurd h' h
    ·simp;omega
 rintro x w3 ⟨rfl,rfl⟩;refine ac (λh0=>?_) (λh0=>?_)
 ·refine rt1 (c:=.slice) Sl.nil e12 ⟨[],Ow.nil _ _,smp,λi=>?_⟩;show _=cv la lb i%q;rw [←hcv i]
  have:cv ma mb i=0:=by
   rcases h0 with h|h
   ·rw [List.length_eq_zero_iff.1 h,sJ]
   ·rw [List.length_eq_zero_iff.1 h];unfold cv;rw [fK (g:=λ_=>0) λu _=>(by simp),me]
  rw [this];simp
 refine ab om om (ab om om ?_);obtain⟨N,hN⟩:∃N,N=ma.length+mb.length-1:=⟨_,rfl⟩;refine bW (N:=N) om om λs2 w4 h4 n4 e4 b4=>?_
 refine j0 (λw11=>(∃l,Ow w11 w.w.heap.size s2 l∧l.length=N∧∀k,l.getD k 0=cv ma mb k%q)∧Ext aa w3 w11) ?_ ?_
 ·have hsz:w.w.heap.size≤w3.w.heap.size:=e12.size;refine lp1 (λm (x:Int) w5=>∃i l,x=(i:Nat)∧m=ma.length-i∧i≤ma.length∧Ow w5 w3.w.heap.size s2 l∧l.length=N∧(∀k,l.getD k 0=cvi ma mb i k%q)∧Ext aa w3 w5) ma.length ⟨0,_,rfl,om,om,h4,smp,λk=>by rw [mC,cvi,show min 0 (k+1)=0 by omega,sgN,Nat.zero_mod],e4⟩ ?_;rintro m x w5 ⟨i,l,rfl,rfl,hi,ho,hl,hg,e5⟩;refine ac (λh=>?_) (λh=>?_)
  ·refine ((hA.rd).ext e5).ix (j:=i) rfl om ?_;refine j0 (λw10=>(∃l,Ow w10 w3.w.heap.size s2 l∧l.length=N∧∀k,l.getD k 0=cvi ma mb (i+1) k%q)∧Ext aa w3 w10) ?_ ?_
   ·refine lp1 (λm (x:Int) w6=>∃j l,x=(j:Nat)∧m=mb.length-j∧j≤mb.length∧Ow w6 w3.w.heap.size s2 l∧l.length=N∧(∀k,l.getD k 0=(cvi ma mb i k+if i≤k∧k-i<j then ma.getD i 0*mb.getD (k-i) 0 else 0)%q)∧Ext aa w3 w6) mb.length ⟨0,l,rfl,om,om,ho,hl,λk=>by rw [hg k,if_neg om,Nat.add_zero],e5⟩ ?_;rintro m x w6 ⟨j,l,rfl,rfl,hj,ho,hl,hg,e6⟩;refine ac (λh=>?_) (λh=>?_)
    ·refine ((hB.rd).ext e6).ix (j:=j) rfl om ?_;have ed:Ext aa w6 w6.drew:=(Ext.refl _ _).drew;have hRx:=((hR.here.ext e12).ext e6).ext ed;refine ag (y:=((i+j:Nat):Int)) ((ar om om).trans om) ?_;refine hRx.md λa3 m3 c3 hm3=>?_
     refine ag (y:=((i+j:Nat):Int)) ((ar om om).trans om) ?_;refine ho.rd.ixk ed (j:=i+j) rfl om λa4 k4=>?_
     refine hRx.md λa5 m5 c5 hm5=>?_
     refine c1 (iu hm5) ?_;rintro r w7 e7 rfl;refine mJ (k4 w7 (ed.trans e7)) (c3.ext e7).1 ?_;refine c1 (nC (hm3.ext e7)) ?_;rintro r w8 e8 rfl;have e68:=(ed.trans e7).trans e8;refine (ho.ext e68).store (j:=i+j) rfl om (Nat.lt_trans (Nat.mod_lt _ om) (show q<W64 by rw [w64];omega)) rfl λw9 h9 e9=>?_
     refine ab om om ⟨mb.length-(j+1),om,j+1,_,om,rfl,om,h9,by simp [hl],λk=>?_,(e6.trans e68).own e9 λc hc=>(ho.from_ c hc).1⟩;rw [i5 om];by_cases h':k=i+j
     ·subst h';rw [if_pos rfl,hg,if_neg om,Nat.add_zero,if_pos om,Nat.add_sub_cancel_left,←Nat.add_mod]
     ·rw [if_neg h',hg k];congr 2;by_cases h2:i≤k∧k-i<j
      ·rw [if_pos h2,if_pos om]
      ·rw [if_neg h2,if_neg om]
    ·refine⟨⟨l,ho,hl,λk=>?_⟩,e6⟩;rw [hg k,abx];congr 2;by_cases h2:i≤k
     ·rw [if_pos h2];by_cases h3:k-i<j
      ·rw [if_pos ⟨h2,h3⟩]
      ·rw [if_neg om,eW (l:=mb) om,Nat.mul_zero]
     ·rw [if_neg h2,if_neg om]
   rintro w10 ⟨⟨l,ho,hl,hg⟩,e10⟩;exact ab om om ⟨ma.length-(i+1),om,i+1,l,om,rfl,om,ho,hl,hg,e10⟩
  ·refine⟨⟨l,ho.less hsz,hl,λk=>?_⟩,e5⟩;rw [hg k,←acM,show i=ma.length by omega]
 rintro w11 ⟨⟨l,ho,hl,hg⟩,e11⟩;refine pf ho λs3 w12 e13 h13=>?_
 exact rt1 (c:=.slice) _ ((e12.trans e11).trans e13) (h13.of om λk=>(hg k).trans (hcv k)).at
def plz(ls:List (List Nat))(i:Nat):Nat:=(ls.map λl=>l.getD i 0).sum
theorem aaU{j:Nat}(h:j<ls.length)(i:Nat):plz (ls.take (j+1)) i=plz (ls.take j) i+(ls.getD j []).getD i 0:=by
 unfold plz;rw [List.take_succ_eq_append_getElem h,List.map_append,List.sum_append,List.map_singleton,List.sum_singleton,List.getD_eq_getElem?_getD (l:=ls),List.getElem?_eq_getElem h];rfl
theorem iE{M:Nat}(hR:Rg w p q)(ha:Rl w a ls)(hk:ls.length≤1073741824)(hM:∀j,(ls.getD j []).length≤M)(hM2:M≤1073741824):Ct Pg F.aR [.pointer p,a.v] w aa [.one .slice] λ(s:Sl) w'=>Op w' w.w.heap.size s M (λi=>plz ls i%q):=by
 refine Ct.aR ?_;unfold Sh.aR;have hq:=hR.rng;have na:=ha.len;refine j1 (λ(n:Int) w2=>(∃N:Nat,n=N∧N≤M∧∀i,i<ls.length→(ls.getD i []).length≤N)∧w2=w.here) ?_ ?_
 ·refine lp2 (λm (n x:Int) w1=>∃N j:Nat,n=N∧x=j∧m=ls.length-j∧j≤ls.length∧N≤M∧(∀i,i<j→(ls.getD i []).length≤N)∧w1=w.here) ls.length ⟨0,0,rfl,rfl,om,om,om,λi h=>(by omega),rfl⟩ ?_;rintro m n x w1 ⟨N,j,rfl,rfl,rfl,hj,hNM,hN,rfl⟩;refine ac (λh=>?_) (λh=>?_)
  ·refine ha.here.idx (Ext.refl _ _) (j:=j) rfl om λa2 t _ ht=>?_
   have nt:=ht.len;have hMj:=hM j;refine fV (ab om om ⟨ls.length-(j+1),om,max N (ls.getD j []).length,j+1,by split<;>omega,om,rfl,om,om,λi hi=>?_,rfl⟩);by_cases h':i=j
   ·subst h';omega
   ·have:=hN i om;omega
  ·exact⟨⟨N,rfl,hNM,λi hi=>hN i om⟩,rfl⟩
 rintro n w2 ⟨⟨N,rfl,hNM,hN⟩,rfl⟩;refine bW (N:=N) rfl om λs w3 h3 n3 e3 b3=>?_
 refine j0 (λw9=>(∃l,Ow w9 w.w.heap.size s l∧l.length=N∧∀i,l.getD i 0=plz ls i%q)∧Ext aa w.here w9) ?_ ?_
 ·refine lp1 (λm (x:Int) w4=>∃j l,x=(j:Nat)∧m=ls.length-j∧j≤ls.length∧Ow w4 w.w.heap.size s l∧l.length=N∧(∀i,l.getD i 0=plz (ls.take j) i%q)∧Ext aa w.here w4) ls.length ⟨0,_,rfl,om,om,h3,smp,λi=>by rw [mC];simp [plz],e3⟩ ?_;rintro m x w4 ⟨j,l,rfl,rfl,hj,ho,hl,hg,e4⟩;refine ac (λh=>?_) (λh=>?_)
  ·refine ha.here.idx e4 (j:=j) rfl om λa2 t _ ht=>?_
   have nt:=ht.len;have hNj:=hN j om;refine j0 (λw8=>(∃l,Ow w8 w.w.heap.size s l∧l.length=N∧∀i,l.getD i 0=plz (ls.take (j+1)) i%q)∧Ext aa w.here w8) ?_ ?_
   ·refine lp1 (λm (x:Int) w5=>∃k l,x=(k:Nat)∧m=(ls.getD j []).length-k∧k≤(ls.getD j []).length∧Ow w5 w.w.heap.size s l∧l.length=N∧(∀i,l.getD i 0=(plz (ls.take j) i+if i<k then (ls.getD j []).getD i 0 else 0)%q)∧Ext aa w.here w5) (ls.getD j []).length ⟨0,l,rfl,om,om,ho,hl,λi=>by rw [hg i,if_neg om,Nat.add_zero],e4⟩ ?_;rintro m x w5 ⟨k,l,rfl,rfl,hk,ho,hl,hg,e5⟩;refine ac (λh=>?_) (λh=>?_)
    ·refine (ht.ext e5).ix (j:=k) rfl om ?_;have ed:Ext aa w5 w5.drew:=(Ext.refl _ _).drew;refine ((hR.here.ext e5).ext ed).md λa3 m3 c3 hm3=>?_
     refine (ho.ext ed).rd.ix (j:=k) rfl om ?_;refine c1 (nC hm3) ?_;rintro r w6 e6 rfl;have e56:=ed.trans e6;refine (ho.ext e56).store (j:=k) rfl om (Nat.lt_trans (Nat.mod_lt _ om) (show q<W64 by rw [w64];omega)) rfl λw7 h7 e7=>?_
     refine ab om om ⟨(ls.getD j []).length-(k+1),om,k+1,_,om,rfl,om,h7,by simp [hl],λi=>?_,(e5.trans e56).own e7 λc hc=>(ho.from_ c hc).1⟩;rw [i5 om];by_cases h':i=k
     ·subst h';rw [if_pos rfl,hg,if_neg om,Nat.add_zero,if_pos om,Nat.mod_add_mod]
     ·rw [if_neg h',hg i];congr 2;by_cases h2:i<k
      ·rw [if_pos h2,if_pos om]
      ·rw [if_neg h2,if_neg om]
    ·refine⟨⟨l,ho,hl,λi=>?_⟩,e5⟩;rw [hg i,aaU om];by_cases h2:i<k
     ·rw [if_pos h2]
     ·rw [if_neg h2,eW (l:=ls.getD j []) om]
   rintro w8 ⟨⟨l,ho,hl,hg⟩,e8⟩;exact ab om om ⟨ls.length-(j+1),om,j+1,l,om,rfl,om,ho,hl,hg,e8⟩
  ·refine⟨⟨l,ho,hl,λi=>?_⟩,e4⟩;rw [hg i,List.take_of_length_le om]
 rintro w9 ⟨⟨l,ho,hl,hg⟩,e9⟩;refine pf ho λs1 w10 e10 h10=>?_
 exact rt1 (c:=.slice) _ (e9.trans e10) (h10.of om hg).at
end
end
section
variable {k t:Nat} {now:Int} {tab:List Int} {K:Addr→Option Addr→Prop} {a:Sl} {la:List Nat}
theorem Eg.down14{w:TW}{p:Option Addr}{b1 b2 b3 b4 b5 b6 b7 b8 b9 b10 b11 b12 b13 b14:Nat}{bs:List Nat}(h:Eg w p (b1::b2::b3::b4::b5::b6::b7::b8::b9::b10::b11::b12::b13::b14::bs) t now tab){K:Addr→Option Addr→Addr→Option Addr→Addr→Option Addr→Addr→Option Addr→Addr→Option Addr→Addr→Option Addr→Addr→Option Addr→Addr→Option Addr→Addr→Option Addr→Addr→Option Addr→Addr→Option Addr→Addr→Option Addr→Addr→Option Addr→Addr→Option Addr→Prop}(hK:∀a1 q1 a2 q2 a3 q3 a4 q4 a5 q5 a6 q6 a7 q7 a8 q8 a9 q9 a10 q10 a11 q11 a12 q12 a13 q13 a14 q14,Eg w q14 bs t now tab→HcC w t [(a14,.pointer q14),(a13,.pointer q13),(a12,.pointer q12),(a11,.pointer q11),(a10,.pointer q10),(a9,.pointer q9),(a8,.pointer q8),(a7,.pointer q7),(a6,.pointer q6),(a5,.pointer q5),(a4,.pointer q4),(a3,.pointer q3),(a2,.pointer q2),(a1,.pointer q1)]→K a1 q1 a2 q2 a3 q3 a4 q4 a5 q5 a6 q6 a7 q7 a8 q8 a9 q9 a10 q10 a11 q11 a12 q12 a13 q13 a14 q14):nck p λa1=>ldc (.ptr) w a1 λ(q1:Option Addr)=>nck q1 λa2=>ldc (.ptr) w a2 λ(q2:Option Addr)=>nck q2 λa3=>ldc (.ptr) w a3 λ(q3:Option Addr)=>nck q3 λa4=>ldc (.ptr) w a4 λ(q4:Option Addr)=>nck q4 λa5=>ldc (.ptr) w a5 λ(q5:Option Addr)=>nck q5 λa6=>ldc (.ptr) w a6 λ(q6:Option Addr)=>nck q6 λa7=>ldc (.ptr) w a7 λ(q7:Option Addr)=>nck q7 λa8=>ldc (.ptr) w a8 λ(q8:Option Addr)=>nck q8 λa9=>ldc (.ptr) w a9 λ(q9:Option Addr)=>nck q9 λa10=>ldc (.ptr) w a10 λ(q10:Option Addr)=>nck q10 λa11=>ldc (.ptr) w a11 λ(q11:Option Addr)=>nck q11 λa12=>ldc (.ptr) w a12 λ(q12:Option Addr)=>nck q12 λa13=>ldc (.ptr) w a13 λ(q13:Option Addr)=>nck q13 λa14=>ldc (.ptr) w a14 λ(q14:Option Addr)=>K a1 q1 a2 q2 a3 q3 a4 q4 a5 q5 a6 q6 a7 q7 a8 q8 a9 q9 a10 q10 a11 q11 a12 q12 a13 q13 a14 q14:=
 h.downC λq1 E1 h1 n1=>E1.downC λq2 E2 h2 n2=>E2.downC λq3 E3 h3 n3=>E3.downC λq4 E4 h4 n4=>E4.downC λq5 E5 h5 n5=>E5.downC λq6 E6 h6 n6=>E6.downC λq7 E7 h7 n7=>E7.downC λq8 E8 h8 n8=>E8.downC λq9 E9 h9 n9=>E9.downC λq10 E10 h10 n10=>E10.downC λq11 E11 h11 n11=>E11.downC λq12 E12 h12 n12=>E12.downC λq13 E13 h13 n13=>E13.downC λq14 E14 h14 n14=>hK _ q1 _ q2 _ q3 _ q4 _ q5 _ q6 _ q7 _ q8 _ q9 _ q10 _ q11 _ q12 _ q13 _ q14 E14 (.cons h14 n14 (.cons h13 n13 (.cons h12 n12 (.cons h11 n11 (.cons h10 n10 (.cons h9 n9 (.cons h8 n8 (.cons h7 n7 (.cons h6 n6 (.cons h5 n5 (.cons h4 n4 (.cons h3 n3 (.cons h2 n2 (.cons h1 n1 (.nil _)))))))))))))))
theorem Eg.ent{w:TW}{q:Option Addr}(h:Eg w q [] t now tab){i:Nat}{x:Int}(hi:tab[i]?=some x){K:Int→Prop}(hK:K x):nck q λa=>ldc (.int .i64) w ((a.add 3).add i) λ(v:Int)=>K v:=by
 obtain⟨hc,_,_,_,m,d,hT⟩:=h;have hc:q=some ⟨t,0,none⟩:=hc;subst hc;exact ah (hT.tabAt hi hK)
theorem Eg.ents{w:TW}{q:Option Addr}(h:Eg w q [] t now tab){K:Int→Int→Int→Int→Int→Int→Int→Int→Int→Int→Int→Prop}(hK:∀r0 r1 r2 r3 r4 r5 r6 r7 r8 r9 r10:Int,tab=[r0,r1,r2,r3,r4,r5,r6,r7,r8,r9,r10]→K r0 r1 r2 r3 r4 r5 r6 r7 r8 r9 r10):
  nck q λa=>ldc (.int .i64) w ((a.add 3).add 0) λ(v0:Int)=>ldc (.int .i64) w ((a.add 3).add 1) λ(v1:Int)=>ldc (.int .i64) w ((a.add 3).add 2) λ(v2:Int)=>ldc (.int .i64) w ((a.add 3).add 3) λ(v3:Int)=>ldc (.int .i64) w ((a.add 3).add 4) λ(v4:Int)=>ldc (.int .i64) w ((a.add 3).add 5) λ(v5:Int)=>ldc (.int .i64) w ((a.add 3).add 6) λ(v6:Int)=>ldc (.int .i64) w ((a.add 3).add 7) λ(v7:Int)=>ldc (.int .i64) w ((a.add 3).add 8) λ(v8:Int)=>ldc (.int .i64) w ((a.add 3).add 9) λ(v9:Int)=>ldc (.int .i64) w ((a.add 3).add 10) λ(v10:Int)=>K v0 v1 v2 v3 v4 v5 v6 v7 v8 v9 v10:=by
 obtain⟨hc,_,⟨r0,r1,r2,r3,r4,r5,r6,r7,r8,r9,r10,rfl,-⟩,_,m,d,hT⟩:=h;have hc:q=some ⟨t,0,none⟩:=hc;subst hc;exact ah (hT.tabAt (i:=0) rfl (hT.tabAt (i:=1) rfl (hT.tabAt (i:=2) rfl (hT.tabAt (i:=3) rfl (hT.tabAt (i:=4) rfl (hT.tabAt (i:=5) rfl (hT.tabAt (i:=6) rfl (hT.tabAt (i:=7) rfl (hT.tabAt (i:=8) rfl (hT.tabAt (i:=9) rfl (hT.tabAt (i:=10) rfl (hK _ _ _ _ _ _ _ _ _ _ _ rfl))))))))))))
def Pe(w:TW)(p:Option Addr)(q:Nat)(np:Option Addr):Prop:=∃b rp,p=some ⟨b,0,none⟩∧Rw w b [.pointer rp,.pointer np]∧Rg w rp q
section
variable {w w':TW} {p np:Option Addr} {q:Nat}
theorem Pe.ext(h:Pe w p q np)(e:Ext aa w w'):Pe w' p q np:=by obtain⟨b,r,h1,h2,h3⟩:=h;exact⟨b,r,h1,h2.ext e,h3.ext e⟩
theorem Pe.here(h:Pe w p q np):Pe w.here p q np:=by obtain⟨b,r,h1,h2,h3⟩:=h;exact⟨b,r,h1,h2.here,h3.here⟩
theorem Pe.drew(h:Pe w p q np):Pe w.drew p q np:=by obtain⟨b,r,h1,h2,h3⟩:=h;exact⟨b,r,h1,h2.drew,h3.drew⟩
theorem Pe.extT(h:Pe w p q np)(hT:Tz w t)(e:Xt1 t w w'):Pe w' p q np:=by obtain⟨b,r,h1,h2,h3⟩:=h;exact⟨b,r,h1,h2.extT hT smp e,h3.extT hT e⟩
theorem Pe.rng(h:Pe w p q np):3≤q∧q<4611686018427387904∧q%2=1:=by obtain⟨_,_,_,_,h⟩:=h;exact h.rng
theorem Pe.rg(h:Pe w p q np)(hK:∀a r,Hc w a (.pointer r)→Rg w r q→K a r):nck p λa=>ldc (.ptr) w a λ(v:Option Addr)=>K a v:=by
 obtain⟨b,r,rfl,h2,h3⟩:=h;have hc:=h2.cell 0;exact ah ⟨r,hc,hK _ r ⟨hc,h2.V⟩ h3⟩
theorem Pe.en(h:Pe w p q np)(hK:∀a,Hc w (a.add 1) (.pointer np)→(∀t,Tz w t→(a.add 1).block≠t)→K a np):nck p λa=>ldc (.ptr) w (a.add 1) λ(v:Option Addr)=>K a v:=by
 obtain⟨b,r,rfl,h2,h3⟩:=h
 have hc:w.w.cell? ((⟨b,0,none⟩:Addr).add 1)=some (.pointer np):=by
  rw [eX];exact h2.cell 1
 refine ah ⟨np,hc,hK ⟨b,0,none⟩ ⟨hc,?_⟩ λt hT=>?_⟩
 ·rw [eX];exact h2.V
 ·rw [eX];exact h2.neT hT smp
theorem pg(ha:Rd w a la)(hn:la.length≤1073741824)(hk:k≤1073741824):Ct Pg F.bS [.pointer p,a.v,.int .i64 k] w aa [.one .slice] λ(s:Sl) w'=>Op w' w.w.heap.size s (la.length+k) (λi=>if i<k then 0 else la.getD (i-k) 0):=by
 refine Ct.bS ?_;unfold Sh.bS;have na:=ha.len;refine aG (λh=>?_) (λh=>?_)
 ·have:la=[]:=List.length_eq_zero_iff.1 (by simp at h;omega);subst this
  exact rt1 (c:=.slice) Sl.nil (Ext.refl _ _) ⟨[],Ow.nil _ _,smp,λi=>by
   show 0=if i<k then 0 else ([]:List Nat).getD (i-k) 0
   split<;>simp⟩
 ·refine bW (N:=k) rfl om λs w1 h1 n1 e1 b1=>?_
  refine h1.cat (ha.here.ext e1) e1.size (by simp;omega) λs' w2 h2 e2 _=>?_
  refine rt1 (c:=.slice) _ (e1.own e2 λb hb=>(h1.from_ b hb).1) ⟨_,h2.at,by simp;omega,λi=>?_⟩;show _=if i<k then 0 else la.getD (i-k) 0
  simp only [List.getD_eq_getElem?_getD];split
  ·rename_i hi;rw [List.getElem?_append_left (by simpa using hi),List.getElem?_replicate,if_pos hi];rfl
  ·rename_i hi;rw [List.getElem?_append_right (by simp;omega),List.length_replicate]
theorem cgm(q x:Nat):cg (q:Int) ((x%q:Nat):Int) x:=⟨-(x/q:Nat),by
 have:=Nat.div_add_mod x q;have h:((x:Nat):Int)=q*(x/q:Nat)+(x%q:Nat):=by rw [←Int.natCast_mul,←Int.natCast_add,this]
 rw [h];grind⟩
theorem aau{r x:Nat}(h:cg (q:Int) (r:Int) (x:Int)):r%q=x%q:=by
 obtain⟨k,hk⟩:=h
 have:((r%q:Nat):Int)=((x%q:Nat):Int):=by
  rw [Int.natCast_emod,Int.natCast_emod,hk,Int.add_mul_emod_self_left]
 exact_mod_cast this
theorem pU{y0 y1 y2:Nat}(hE:Pe w p q np):Ct Pg F.bN [.pointer p,.agg #[.int .u64 y0,.int .u64 y1,.int .u64 y2]] w aa [.one (.int .u64)] λ(r:Int) w'=>r=((y0+W64*y1+W64*W64*y2)%q:Nat):=by
 refine Ct.bN ?_;unfold Sh.bN;intro w1 e1;have hE:=hE.here.ext e1;refine hE.rg λa r1 c1' g1=>g1.md λa1 m1 c2' hm=>?_
 refine c1 (iu (a:=9223372036854775808) (b:=2) hm) ?_;rintro r w2 e2 rfl;have e12:=e1.trans e2;have hE2:=(hE.ext e2).drew;refine hE2.rg λa2 r2 k2 g2=>g2.md λa3 m3 _ hm3=>?_
 refine c1 (rh hm3) ?_;rintro r w3 e3 rfl;refine kG (k2.ext e3).1 ?_;have hE3:=(hE2.ext e3).drew;refine hE3.rg λa4 r4 k4 g4=>g4.md λa5 m5 k5 hm5=>hE3.rg λa6 r6 k6 g6=>g6.md λa7 m7 k7 hm7=>?_
 refine c1 (iu hm7) ?_;rintro r w4 e4 rfl;refine iF (.cons (k6.ext e4) (.cons (k5.ext e4) (.cons (k4.ext e4) (.nil _)))) ?_;refine c1 (nC (hm5.ext e4)) ?_;rintro r w5 e5 rfl;have e45:=e4.trans e5;refine iF (.cons (k6.ext e45) (.cons (k4.ext e45) (.nil _))) ?_;have hE5:=(hE3.ext e45).drew;refine hE5.rg λa8 r8 k8 g8=>g8.md λa9 m9 k9 hm9=>hE5.rg λa10 r10 k10 g10=>g10.md λa11 m11 k11 hm11=>?_
 refine c1 (iu hm11) ?_;rintro r w6 e6 rfl;refine iF (.cons (k10.ext e6) (.cons (k9.ext e6) (.cons (k8.ext e6) (.nil _)))) ?_;refine c1 (nC (hm9.ext e6)) ?_;rintro r w7 e7 rfl;have e67:=e6.trans e7;refine iF (.cons (k10.ext e67) (.cons (k8.ext e67) (.nil _))) ?_;have d:∀v:TW,Ext aa v v.drew:=λv=>(Ext.refl _ _).drew
 have ee:=((e12.trans ((d _).trans e3)).trans ((d _).trans e45)).trans ((d _).trans e67);refine rt1 (c:=.int .u64) _ ee ?_;congr 1;refine aau ?_;have hb:cg (q:Int) ((9223372036854775808*2%q:Nat):Int) ((W64:Nat):Int):=cgm q (9223372036854775808*2);have s1:=((cgm q y2).mul hb);rw [←Int.natCast_mul] at s1;have s2:=(cgm q _).trans s1;have s3:=s2.add (cg.rfl' (p:=(q:Int)) (x:=(y1:Int)));rw [←Int.natCast_add] at s3;have s4:=((cgm q _).trans s3).mul hb;rw [←Int.natCast_mul] at s4;have s5:=((cgm q _).trans s4).add (cg.rfl' (p:=(q:Int)) (x:=(y0:Int)));rw [←Int.natCast_add] at s5;refine s5.trans (cg.of ?_);generalize W64=W;simp only [Int.natCast_add,Int.natCast_mul];grind
theorem pmul_packed(ha:Rd w a la)(hn:la.length≤1073741824)(h1k:1≤k)(hk:k≤3):Ct Pg F.ig [a.v,.int .i64 k] w aa [.one .slice] λ(s:Sl) w'=>∃l,Rd w' s l∧l.length=k*la.length∧vl W64 l=vl (W64^k) la:=by
 refine Ct.ig ?_;unfold Sh.ig;have na:=ha.len;have hkn:k*la.length≤3*la.length:=Nat.mul_le_mul_right _ hk;refine ag (y:=((k*la.length:Nat):Int)) (by rw [na,←Int.natCast_mul];exact ar om om) ?_;refine bW (N:=k*la.length) rfl om λs w1 h1 n1 e1 b1=>?_
 refine j0 (λw5=>(∃l,Ow w5 w.w.heap.size s l∧l.length=k*la.length∧vl W64 l=vl (W64^k) la)∧Ext aa w.here w5) ?_ ?_
 ·refine lp1 (λm (x:Int) w2=>∃j l,x=(j:Nat)∧m=la.length-j∧j≤la.length∧Ow w2 w.w.heap.size s l∧l.length=k*la.length∧vl W64 l=vl (W64^k) (la.take j)∧(∀i,k*j≤i→l.getD i 0=0)∧Ext aa w.here w2) la.length ⟨0,_,rfl,om,om,h1,smp,by rw [jP];rfl,λi h=>mC _ _,e1⟩ ?_;rintro m x w2 ⟨j,l,rfl,rfl,hj,ho,hl,hv,hz,e2⟩;refine ac (λh=>?_) (λh=>?_)
  ·refine (ha.here.ext e2).ix (j:=j) rfl om ?_;have hjk:k*(j+1)≤k*la.length:=Nat.mul_le_mul_left _ om;rw [Nat.mul_add] at hjk;refine ag (y:=((k*j:Nat):Int)) (by rw [←Int.natCast_mul];exact ar om om) ?_;refine ho.store (j:=k*j) rfl om (ha.lt j) rfl λw4 h4 e4=>?_
   refine ab om om ⟨la.length-(j+1),om,j+1,_,om,rfl,om,h4,by simp [hl],?_,λi hi=>?_,e2.own e4 λc hc=>(ho.from_ c hc).1⟩
   ·have h5:=lu (b:=W64) (l:=l) (k:=k*j) om (la.getD j 0);have h6:=hz (k*j) (Nat.le_refl _);rw [List.getD_eq_getElem?_getD,List.getElem?_eq_getElem om] at h6;have h6:l[k*j]=0:=h6;rw [h6,Nat.mul_zero,Nat.add_zero] at h5;rw [h5,hv,aj,←Nat.pow_mul]
   ·rw [Nat.mul_add] at hi;rw [i5 om,if_neg om];exact hz i om
  ·refine⟨⟨l,ho,hl,?_⟩,e2⟩;rw [hv,List.take_of_length_le om]
 rintro w5 ⟨⟨l,ho,hl,hv⟩,e5⟩;exact rt1 (c:=.slice) _ e5 ⟨l,ho.rd.at_,hl,hv⟩
end
end
section
variable {K:Nat→TW→Prop} {s u:Sl} {x y:List Nat} {h:Nat}
theorem abS{w:TW}{e:TypeId}{ss:List Sl}{ls:List (List Nat)}(k:Nat)(hk:ss.length=k)(hl:ss.length=ls.length)(hn:k≤1099511627776)(h:∀i t,ss[i]?=some t→Rd w t (ls.getD i []))(hK:∀b w',Rl w' ⟨some ⟨b,0,none⟩,k,k⟩ ls→Ext aa w w'→K b w'):nwb w (ss.map Sl.v) e K:=by
 subst hk;intro b w' hw;refine hK b w' ⟨ss,⟨smp,Nat.le_refl _,by simp only [maxLen];omega,λ_=>⟨b,0,rfl,λhV=>?_,λj v hj=>?_⟩⟩,hl,λi t ht=>(h i t ht).ext (hw.ext _)⟩ (hw.ext _)
 ·rw [hw.V] at hV;have:=w.lt _ hV;have:=hw.at_;omega
 ·rw [cell_of_row w'.w b (0+j) _ e (0,0) hw.heap];simpa using hj
theorem nz{w:TW}{e:TypeId}(hs:Rd w s x)(hu:Rd w u y)(hK:∀b w',Rl w' ⟨some ⟨b,0,none⟩,2,2⟩ [x,y]→Ext aa w w'→K b w'):nwb w [s.v,u.v] e K:=
 abS (ss:=[s,u]) 2 rfl rfl dcd (λi t ht=>by
  match i,ht with
  | 0,ht=>simp at ht;subst ht;exact hs
  | 1,ht=>simp at ht;subst ht;exact hu) hK
theorem adg{w:TW}{e:TypeId}{v:Sl}{z:List Nat}(hs:Rd w s x)(hu:Rd w u y)(hv:Rd w v z)(hK:∀b w',Rl w' ⟨some ⟨b,0,none⟩,3,3⟩ [x,y,z]→Ext aa w w'→K b w'):nwb w [s.v,u.v,v.v] e K:=
 abS (ss:=[s,u,v]) 3 rfl rfl dcd (λi t ht=>by
  match i,ht with
  | 0,ht=>simp at ht;subst ht;exact hs
  | 1,ht=>simp at ht;subst ht;exact hu
  | 2,ht=>simp at ht;subst ht;exact hv) hK
theorem tw(la lb:List Nat)(i:Nat):cv la lb i=cv lb la i:=by
 have:=mT (izl la) (izl lb) i;rw [ka,ka] at this;exact_mod_cast this
theorem adE(A0 A1 B:List Nat)(h0:A0.length=h)(i:Nat):cv (A0++A1) B i=cv A0 B i+if i<h then 0 else cv A1 B (i-h):=by
 have:=adt (izl A0) (izl A1) (izl B) (h:=h) (by rw [tj,h0]) i;rw [←tk,ka,bK,ka,ir] at this;by_cases hi:i<h
 ·rw [if_pos hi] at this ⊢;omega
 ·rw [if_neg hi,ka] at this;rw [if_neg hi];exact_mod_cast this
theorem qv(x y:List Nat)(i:Nat):plz [x,y] i=x.getD i 0+y.getD i 0:=by simp [plz]
theorem zC(x y z:List Nat)(i:Nat):plz [x,y,z] i=x.getD i 0+(y.getD i 0+z.getD i 0):=by simp [plz]
theorem adu{q i:Nat}(A0 A1 B0 B1 P Q:List Nat)(h0:A0.length=h)(h1:B0.length=h)(hP:∀i,cg (q:Int) (P.getD i 0:Nat) (A0.getD i 0+A1.getD i 0:Nat))(hQ:∀i,cg (q:Int) (Q.getD i 0:Nat) (B0.getD i 0+B1.getD i 0:Nat))(lo mi hi:Nat→Nat)(hlo:∀i,cg (q:Int) (lo i) (cv A0 B0 i:Nat))(hhi:∀i,cg (q:Int) (hi i) (cv A1 B1 i:Nat))(hmi:∀i,cg (q:Int) (mi i) ((cv P Q i:Nat)-((lo i:Int)+hi i))):
  cg (q:Int) ((lo i:Int)+((if i<h then 0 else (mi (i-h):Int))+(if i<2*h then 0 else (hi (i-2*h):Int)))) (cv (A0++A1) (B0++B1) i:Nat):=by
 have hk:=ads (izl A0) (izl A1) (izl B0) (izl B1) (h:=h) (by rw [tj,h0]) (by rw [tj,h1]) i;rw [←tk,←tk,ka,bK,bK,ir,ir,ka] at hk;rw [hk];refine (hlo i).add (cg.add ?_ ?_)
 ·by_cases hi':i<h
  ·rw [if_pos hi',if_pos hi'];exact cg.rfl'
  ·rw [if_neg hi',if_neg hi',bK,qy,bK,ka,ka];refine (hmi _).trans ?_;rw [Int.sub_eq_add_neg];refine cg.add ?_ (((hlo _).add (hhi _)).neg);rw [←ka];exact ad2 (λk=>by rw [lc,bK,lc,lc,←Int.natCast_add];exact hP k) (λk=>by rw [lc,bK,lc,lc,←Int.natCast_add];exact hQ k) _
 ·by_cases hi':i<2*h
  ·rw [if_pos hi',if_pos hi'];exact cg.rfl'
  ·rw [if_neg hi',if_neg hi',ka];exact hhi _
theorem xC(l:List Nat)(hh:h≤l.length):(l.take h).length=h∧(l.drop h).length=l.length-h:=by simp;omega
section
variable {w w':TW} {p np:Option Addr} {q mo hg g po nu ra ro dv rc c m d k e t:Nat} {now:Int} {tab:List Int}
abbrev Pq(w:TW)(B:Nat)(s:Sl)(q:Nat)(la lb:List Nat):Prop:=Op w B s (la.length+lb.length) λi=>cv la lb i%q
abbrev adQ(n:Nat)(p np:Option Addr)(q:Nat)(bs:List Nat)(t:Nat)(now:Int)(tab:List Int):Prop:=∀{w:TW} {a b:Sl} {la lb:List Nat},Pe w p q np→Eg w np bs t now tab→Rd w a la→Rd w b lb→la.length≤n→lb.length≤n→n≤1048576→Ct Pg F.aH [.pointer p,a.v,b.v] w aa [.one .slice] λ(s:Sl) w'=>Pq w' w.w.heap.size s q la lb
set_option maxHeartbeats 1600000 in
theorem tO:∀n,adQ n p np q [mo,hg,g,po,nu,ra,ro,dv,rc,c,m,d,k,e] t now tab:=by
 intro n;induction n using Nat.strongRecOn with
 | _ n ih=>
 intro w a b la lb hE hN ha hb hla hlb hn;refine Ct.aH ?_;unfold Sh.aH;have hq:=hE.rng;have na:=ha.len;have nb:=hb.len;have hE:=hE.here;have hN:=hN.here;refine j2 (λ(a1:Sl)(b1:Sl) w1=>w1=w.here∧∃x y,Rd w.here a1 x∧Rd w.here b1 y∧y.length≤x.length∧x.length≤n∧x.length+y.length=la.length+lb.length∧∀i,cv x y i=cv la lb i) ?_ ?_
 ·refine ac (λh=>?_) (λh=>?_)
  ·exact⟨rfl,lb,la,hb.here,ha.here,om,hlb,om,tw _ _⟩
  ·exact⟨rfl,la,lb,ha.here,hb.here,om,hla,rfl,λi=>rfl⟩
 rintro a1 b1 w1 ⟨rfl,x,y,ha,hb,hyx,hxn,hxy,hcv⟩;clear na nb;have na:=ha.len;have nb:=hb.len;refine hE.en λa2 _ _=>hN.down14 λ_ _ _ _ _ _ _ _ _ _ _ _ _ _ _ _ _ _ _ _ _ _ _ _ _ _ _ _ E14 _=>?_
 obtain⟨r0,r1,r2,r3,r4,r5,r6,r7,r8,r9,r10,rfl,hr⟩:=hN.2.2.1;refine E14.ent (i:=7) rfl ?_;refine ac (λh=>?_) (λh=>?_)
 ·refine hE.rg λa18 rp _ hR=>?_
  refine c1 (qQ hR ha hb om om) λs w2 e2 h2=>?_
  exact rt1 (c:=.slice) _ e2 (h2.of om λi=>by rw [hcv i]).at
 have h4:4≤y.length:=om;obtain⟨hh,hhd⟩:∃hh,hh=(x.length+1)/2:=⟨_,rfl⟩;refine ag (y:=((x.length+1:Nat):Int)) ((ar om om).trans om) ?_;refine jb (x:=x.length+1) (y:=2) rfl rfl om om ?_;rw [←hhd];have hd:∀v:TW,Ext aa v v.drew:=λv=>(Ext.refl _ _).drew
 have hEd:=hE.drew;have hNd:=hN.drew;refine hEd.rg λa19 rp _ hR=>?_
 have hac:=ha.cap;have hbc:=hb.cap;refine j7 (l:=0) (h:=hh) rfl rfl om om ?_;refine j7 (l:=hh) (h:=a1.n) rfl rfl om om ?_;have hA0:=ha.cut (lo:=0) (hi:=hh) om om;have hA1:=ha.cut (lo:=hh) (hi:=a1.n) om om;rw [List.drop_zero] at hA0;rw [na,List.take_of_length_le (Nat.le_refl _)] at hA1;rw [←na] at hA1;obtain⟨lx0,lx1⟩:=xC x (h:=hh) om;have hxs:x=x.take hh++x.drop hh:=(List.take_append_drop hh x).symm;obtain⟨A0,hA0d⟩:∃A0,x.take hh=A0:=⟨_,rfl⟩;obtain⟨A1,hA1d⟩:∃A1,x.drop hh=A1:=⟨_,rfl⟩;rw [hA0d] at hA0 lx0 hxs;rw [hA1d] at hA1 lx1 hxs;refine c1 (je hR (hA0.ext (hd _)) om) ?_;rintro s3 w3 e3 ⟨C0,hC0,nC0,gC0⟩;have e03:=(hd w.here).trans e3;have hE3:=(hE.ext e03);have hN3:=(hN.ext e03);have gC:∀i,C0.getD i 0%q=A0.getD i 0%q:=λi=>by rw [gC0 i,Nat.mod_mod]
 refine ac (λh'=>?_) (λh'=>?_)
 ·-- one of them short
  have hE3d:=hE3.drew;have hN3d:=hN3.drew;refine hE3d.rg λa20 rp kp hR3=>?_
  refine c1 (ih hh om hE3d hN3d (hC0.drew).rd (hb.ext (e03.trans (hd _))) om om om) ?_;rintro s4 w4 e4 ⟨L4,h4',n4,g4⟩;have f4:=(hd w3).trans e4;refine kG (kp.ext e4).1 ?_;refine c1 (ih hh om (hE3.ext f4) (hN3.ext f4) (hA1.ext (e03.trans f4)) (hb.ext (e03.trans f4)) om om om) ?_;rintro s5 w5 e5 ⟨L5,h5,n5,g5⟩;refine kG (kp.ext (e4.trans e5)).1 ?_;refine c1 (pg (k:=hh) h5.rd om om) ?_;rintro s6 w6 e6 ⟨L6,h6,n6,g6⟩;have e46:=(e4.trans e5).trans e6;refine kG (kp.ext e46).1 ?_;refine nz ((h4'.ext e5).ext e6).rd h6.rd λb2 w7 h7 e7=>?_
  have e47:=e46.trans e7;refine kG (kp.ext e47).1 ?_;refine c1 (iE (a:=⟨some ⟨b2,0,none⟩,2,2⟩) (M:=la.length+lb.length) (hR3.ext e47) h7 smp (λj=>?_) om) λs8 w8 e8 h8=>?_
  ·match j with
   | 0=>show L4.length≤_;omega
   | 1=>show L6.length≤_;omega
   | j+2=>simp
  refine rt1 (c:=.slice) _ ((e03.trans (hd _)).trans (e47.trans e8)) ((h8.of (Nat.le_refl _) λi=>?_).less ((e03.trans (hd _)).trans e47).size).at;show plz [L4,L6] i%q=cv la lb i%q;have g6':L6.getD i 0=if i<hh then 0 else L5.getD (i-hh) 0:=g6 i
  rw [←hcv i,hxs,adE A0 A1 y lx0,qv,g4 i,g6',Nat.add_mod,Nat.mod_mod,uE gC (λ_=>rfl),Nat.add_mod (cv A0 y i)];congr 2;by_cases hi:i<hh
  ·rw [if_pos hi,if_pos hi]
  ·rw [if_neg hi,if_neg hi,show L5.getD (i-hh) 0=cv A1 y (i-hh)%q from g5 _,Nat.mod_mod]
 ·-- both in two
  have hE3d:=hE3.drew;refine hE3d.rg λa21 rp _ hR3=>?_
  refine j7 (l:=0) (h:=hh) rfl rfl om om ?_;refine j7 (l:=hh) (h:=b1.n) rfl rfl om om ?_;have hB0:=hb.cut (lo:=0) (hi:=hh) om om;have hB1:=hb.cut (lo:=hh) (hi:=b1.n) om om;rw [List.drop_zero] at hB0;rw [nb,List.take_of_length_le (Nat.le_refl _)] at hB1;rw [←nb] at hB1;obtain⟨ly0,ly1⟩:=xC y (h:=hh) om;have hys:y=y.take hh++y.drop hh:=(List.take_append_drop hh y).symm;obtain⟨B0,hB0d⟩:∃B0,y.take hh=B0:=⟨_,rfl⟩;obtain⟨B1,hB1d⟩:∃B1,y.drop hh=B1:=⟨_,rfl⟩;rw [hB0d] at hB0 ly0 hys;rw [hB1d] at hB1 ly1 hys;refine c1 (je hR3 (hB0.ext (e03.trans (hd _))) om) ?_;rintro s10 w9 e9 ⟨D0,hD0,nD0,gD0⟩;have f9:=(hd w3).trans e9;have gD:∀i,D0.getD i 0%q=B0.getD i 0%q:=λi=>by rw [gD0 i,Nat.mod_mod]
  refine c1 (ih hh om (hE3.ext f9) (hN3.ext f9) (hC0.ext f9).rd hD0.rd om om om) ?_;rintro s11 w10 e10 ⟨L,hL,nL,gL⟩;have f10:=f9.trans e10;refine c1 (ih hh om (hE3.ext f10) (hN3.ext f10) (hA1.ext (e03.trans f10)) (hB1.ext (e03.trans f10)) om om om) ?_;rintro s12 w11 e11 ⟨H,hH,nH,gH⟩;have f11:=f10.trans e11;have hE11:=hE3.ext f11;have hN11:=hN3.ext f11;have rC0:=(hC0.ext f11).rd;have rA1:=hA1.ext (e03.trans f11);have rD0:=(hD0.ext (e10.trans e11)).rd;have rB1:=hB1.ext (e03.trans f11)
  have two:∀(X Y:List Nat) j,X.length≤hh→Y.length≤hh→(([X,Y]:List (List Nat)).getD j []).length≤hh:=λX Y j h1 h2=>by
   match j with
   | 0=>exact h1
   | 1=>exact h2
   | j+2=>simp
  refine j1 (λ(both:Sl) w26=>Ext aa w11 w26∧∃P Q,P.length≤hh∧Q.length≤hh∧(∀i,P.getD i 0=plz [C0,A1] i%q)∧(∀i,Q.getD i 0=plz [D0,B1] i%q)∧Pq w26 w11.w.heap.size both q P Q) ?_ ?_
  ·have hE11d:=hE11.drew
   have key:∀{v:TW} {u1 u2:Sl} {P Q:List Nat},Ext aa w11 v→Rd v u1 P→Rd v u2 Q→P.length≤hh→Q.length≤hh→(∀i,P.getD i 0=plz [C0,A1] i%q)→(∀i,Q.getD i 0=plz [D0,B1] i%q)→cl Pg F.aH [.pointer p,u1.v,u2.v] v [.one .slice] λ(s:Sl) v'=>Ext aa w11 v'∧∃P Q,P.length≤hh∧Q.length≤hh∧(∀i,P.getD i 0=plz [C0,A1] i%q)∧(∀i,Q.getD i 0=plz [D0,B1] i%q)∧Pq v' w11.w.heap.size s q P Q:=by
    intro v u1 u2 P Q ev h1 h2 k1 k2 g1 g2;refine c1 (ih hh om (hE11.ext ev) (hN11.ext ev) h1 h2 k1 k2 om) λs v' e' h'=>⟨ev.trans e',P,Q,k1,k2,g1,g2,h'.less ev.size⟩
   have e0:=hd w11;refine hE11d.rg λa22 r20 k20 hR20=>hE11d.rg λa23 r21 k21 hR21=>⟨?_,?_⟩
   ·refine nz rC0.drew rA1.drew λb3 w12 h12 e12=>?_
    refine iF (.cons (k21.ext e12) (.cons (k20.ext e12) (.nil _))) ⟨?_,?_⟩
    ·refine c1 (iE (a:=⟨some ⟨b3,0,none⟩,2,2⟩) (M:=hh) (hR20.ext e12) h12 smp (λj=>two _ _ j om om) om) ?_;rintro s13 w13 e13 ⟨P,hP,nP,gP⟩;have x13:=e12.trans e13;refine iF (.cons (k21.ext x13) (.nil _)) ?_;refine nz (rD0.drew.ext x13) (rB1.drew.ext x13) λb4 w14 h14 e14=>?_
     have x14:=x13.trans e14;refine iF (.cons (k21.ext x14) (.nil _)) ?_;refine c1 (iE (a:=⟨some ⟨b4,0,none⟩,2,2⟩) (M:=hh) (hR21.ext x14) h14 smp (λj=>two _ _ j om om) om) ?_;rintro s14 w15 e15 ⟨Q,hQ,nQ,gQ⟩;exact key (e0.trans (x14.trans e15)) ((hP.ext e14).ext e15).rd hQ.rd nP nQ gP gQ
    ·refine nz (rD0.drew.ext e12) (rB1.drew.ext e12) λb5 w17 h17 e17=>?_
     have x17:=e12.trans e17;refine iF (.cons (k21.ext x17) (.cons (k20.ext x17) (.nil _))) ?_;refine c1 (iE (a:=⟨some ⟨b3,0,none⟩,2,2⟩) (M:=hh) (hR20.ext x17) (h12.ext e17) smp (λj=>two _ _ j om om) om) ?_;rintro s16 w18 e18 ⟨P,hP,nP,gP⟩;have x18:=x17.trans e18;refine iF (.cons (k21.ext x18) (.nil _)) ?_;refine c1 (iE (a:=⟨some ⟨b5,0,none⟩,2,2⟩) (M:=hh) (hR21.ext x18) (h17.ext e18) smp (λj=>two _ _ j om om) om) ?_;rintro s17 w19 e19 ⟨Q,hQ,nQ,gQ⟩;exact key (e0.trans (x18.trans e19)) (hP.ext e19).rd hQ.rd nP nQ gP gQ
   ·refine nz rD0.drew rB1.drew λb6 w21 h21 e21=>?_
    refine iF (.cons (k21.ext e21) (.cons (k20.ext e21) (.nil _))) ?_;refine nz (rC0.drew.ext e21) (rA1.drew.ext e21) λb7 w22 h22 e22=>?_
    have x22:=e21.trans e22;refine iF (.cons (k21.ext x22) (.cons (k20.ext x22) (.nil _))) ?_;refine c1 (iE (a:=⟨some ⟨b7,0,none⟩,2,2⟩) (M:=hh) (hR20.ext x22) h22 smp (λj=>two _ _ j om om) om) ?_;rintro s19 w23 e23 ⟨P,hP,nP,gP⟩;have x23:=x22.trans e23;refine iF (.cons (k21.ext x23) (.nil _)) ?_;refine c1 (iE (a:=⟨some ⟨b6,0,none⟩,2,2⟩) (M:=hh) (hR21.ext x23) ((h21.ext e22).ext e23) smp (λj=>two _ _ j om om) om) ?_;rintro s20 w24 e24 ⟨Q,hQ,nQ,gQ⟩;exact key (e0.trans (x23.trans e24)) (hP.ext e24).rd hQ.rd nP nQ gP gQ
  rintro both w26 ⟨e26,P,Q,nP,nQ,gP,gQ,⟨BB,hBB,nBB,gBB⟩⟩;have hE26:=(hE11.ext e26).drew;have z26:=e26.trans (hd w26);refine hE26.rg λa24 r22 k22 hR22=>hE26.rg λa25 r23 k23 hR23=>?_
  have rL:=((hL.ext e11).ext e26).drew;have rH:=(hH.ext e26).drew;refine nz rL.rd rH.rd λb8 w27 h27 e27=>?_
  refine iF (.cons (k23.ext e27) (.cons (k22.ext e27) (.nil _))) ?_;refine c1 (iE (a:=⟨some ⟨b8,0,none⟩,2,2⟩) (M:=2*hh) (hR23.ext e27) h27 smp (λj=>?_) om) ?_
  ·match j with
   | 0=>show L.length≤_;omega
   | 1=>show H.length≤_;omega
   | j+2=>simp
  rintro s22 w28 e28 ⟨S,hS,nS,gS⟩;have x28:=e27.trans e28;refine iF (.cons (k22.ext x28) (.nil _)) ?_;refine c1 (ww (hR22.ext x28) (hBB.drew.ext x28).rd hS.rd om om) ?_;rintro s23 w29 e29 ⟨M,hM,nM,gM⟩;have x29:=x28.trans e29;have hE29:=(hE26.ext x29).drew;refine hE29.rg λa26 r24 k24 hR24=>?_
  refine ag (y:=((2*hh:Nat):Int)) ((ar om om).trans om) ?_;refine c1 (pg (k:=hh) hM.drew.rd om om) ?_;rintro s24 w30 e30 ⟨M2,hM2,nM2,gM2⟩;refine iF (.cons (k24.ext e30) (.nil _)) ?_;have rH29:=((rH.ext x29).drew).ext e30;refine c1 (pg (k:=2*hh) rH29.rd om om) ?_;rintro s25 w31 e31 ⟨H2,hH2,nH2,gH2⟩;have x31:=e30.trans e31;refine iF (.cons (k24.ext x31) (.nil _)) ?_;refine adg (((rL.ext x29).drew).ext x31).rd (hM2.ext e31).rd hH2.rd λb9 w32 h32 e32=>?_
  have x32:=x31.trans e32;refine iF (.cons (k24.ext x32) (.nil _)) ?_;refine c1 (iE (a:=⟨some ⟨b9,0,none⟩,3,3⟩) (M:=la.length+lb.length) (hR24.ext x32) h32 smp (λj=>?_) om) λs26 w33 e33 h33=>?_
  ·match j with
   | 0=>show L.length≤_;omega
   | 1=>show M2.length≤_;omega
   | 2=>show H2.length≤_;omega
   | j+3=>simp
  have ee:=(((e03.trans f11).trans z26).trans (x29.trans (hd _))).trans x32;refine rt1 (c:=.slice) _ (ee.trans e33) ((h33.of (Nat.le_refl _) λi=>?_).less ee.size).at;show plz [L,M2,H2] i%q=cv la lb i%q;rw [←hcv i,hxs,hys];refine aau ?_;have hk:=adu (q:=q) (h:=hh) (i:=i) A0 A1 B0 B1 P Q lx0 ly0 (λi=>?_) (λi=>?_) (λi=>L.getD i 0) (λi=>M.getD i 0) (λi=>H.getD i 0) (λi=>?_) (λi=>?_) (λi=>?_)
  ·rw [zC,gM2 i,gH2 i];refine cg.trans (cg.of ?_) hk;push_cast;congr 2<;>split<;>simp
  ·rw [gP i,qv];refine (cgm q _).trans ?_;push_cast;refine cg.add ?_ cg.rfl';rw [gC0 i];exact cgm q _
  ·rw [gQ i,qv];refine (cgm q _).trans ?_;push_cast;refine cg.add ?_ cg.rfl';rw [gD0 i];exact cgm q _
  ·show cg (q:Int) (L.getD i 0:Nat) _;rw [show L.getD i 0=cv C0 D0 i%q from gL i,uE gC gD i];exact cgm q _
  ·show cg (q:Int) (H.getD i 0:Nat) _;rw [gH i];exact cgm q _
  ·show cg (q:Int) (M.getD i 0:Nat) _;rw [gM i];refine (cgm q _).trans ?_;have hlt:=Nat.mod_lt (S.getD i 0) (show 0<q by omega);rw [show ((BB.getD i 0%q+q-S.getD i 0%q:Nat):Int)=((BB.getD i 0%q:Nat):Int)+q-(S.getD i 0%q:Nat) by omega];refine cg.sub (cg.trans ⟨1,by rw [Int.mul_one]⟩ ((cgm q _).trans ?_)) ((cgm q _).trans ?_)
   ·rw [gBB i];exact cgm q _
   ·rw [show S.getD i 0=plz [L,H] i%q from gS i,qv];refine (cgm q _).trans (cg.of ?_);push_cast;rfl
end
end
end Go.Proofs.YtpbimnlggalnfaaGreatDoor.Zg
