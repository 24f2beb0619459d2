/- A part of the proofs of this seat's laws. -/
import Derived.Test.YtpbimnlggalnfaaGreatDoorGC
import Derived.Test.YtpbimnlggalnfaaGreatDoorGP
import Derived.Test.YtpbimnlggalnfaaGreatDoorGP1
import Derived.Test.YtpbimnlggalnfaaGreatDoorGP4
set_option linter.unusedVariables false
set_option linter.unusedSimpArgs false
set_option linter.unnecessarySimpa false
namespace Go.Proofs.YtpbimnlggalnfaaGreatDoor.Zg
open Go.RowKit
section
variable {w:TW} {s:Sl} {l:List Nat} {x:Nat} {K:Sl→TW→Prop}
theorem api_Nat_Len(h:Rd w s l):Ct Pg F.aO [s.v] w aa [.one (.int .i64)] λ(n:Int) _=>n=(sz (vl W64 l):Nat):=by
 refine Ct.aO ?_;unfold Sh.aO;have h:=h.here;have hl:=h.len;have hc:=h.le;refine jn (λ(k:Int) w'=>Ext aa w.here w'∧k=(sz (vl W64 l):Nat)) ?_ ?_
 ·refine lp1 (λm (k:Int) w'=>∃j:Nat,k=j∧m=j∧j≤l.length∧vl W64 (l.drop j)=0∧Ext aa w.here w') l.length ⟨l.length,by rw [hl],rfl,Nat.le_refl _,by simp [vl],Ext.refl _ _⟩ ?_;rintro m k w' ⟨j,rfl,rfl,hj,hz,hx⟩;refine jn (λ(b:Bool) w''=>w''=w'∧b=decide (∃h:0<m,l[m-1]=0)) ?_ ?_
  ·refine ac (λh0=>?_) (λh0=>?_)
   ·refine ab om om ((h.ext hx).idx (j:=m-1) om om ⟨rfl,?_⟩);rw [Bool.eq_iff_iff];simp;exact⟨λh=>⟨om,h⟩,λ⟨_,h⟩=>h⟩
   ·exact⟨rfl,by simp;omega⟩
  ·rintro b w'' ⟨rfl,rfl⟩;refine ac (λh0=>?_) (λh0=>?_)
   ·obtain⟨h1,h2⟩:=h0;refine ab om om ⟨m-1,om,m-1,om,rfl,om,?_,hx⟩;have:=i4 W64 (l.drop (m-1)) 1 (by simp;omega);rw [List.drop_drop,show m-1+1=m by omega,hz] at this;rw [this,List.drop_eq_getElem_cons (by omega:m-1<l.length),List.take_succ_cons];simp [vl,h2]
   ·refine⟨hx,?_⟩;rw [sz,uh W2 h.sm hj hz (λh1 h2=>h0 ⟨h1,h2⟩)];simp [hj]
 ·rintro k w' ⟨hx,rfl⟩;exact rt1 (c:=.int .i64) _ hx rfl
theorem limb_trim(h:Rd w s l):Ct Pg F.aI [s.v] w aa [.one .slice] λ(s':Sl) _=>s'=s.cut 0 (sz (vl W64 l)) 1:=by
 refine Ct.aI ?_;unfold Sh.aI;refine c1 (api_Nat_Len h.here) ?_;rintro r w1 hx rfl;have h1:=df h.sm;have h2:=h.cap;refine⟨om,om,om,?_⟩;exact rt1 (c:=.slice) _ hx smp
theorem tr(h:Nt w s x)(hK:∀s' w',Ext aa w w'→Rd w' s' (dg W64 x)→K s' w'):cl Pg F.aI [s.v] w [.one .slice] K:=by
 obtain⟨l,h,rfl⟩:=h;refine c1 (limb_trim h) ?_;rintro s' w' hx rfl;exact hK _ _ hx (h.trim.ext hx)
theorem trO{B:Nat}(h:Ow w B s l)(hK:∀s' w',Ext aa w w'→On w' B s' (vl W64 l)→K s' w'):cl Pg F.aI [s.v] w [.one .slice] K:=by
 refine c1 (limb_trim h.rd) ?_;rintro s' w' hx rfl;exact hK _ _ hx (h.trim.ext hx)
theorem limb_within{n m:Int}(hm:0≤m):Ct Pg F.eO [.int .i64 n,.int .i64 m] w aa [.one (.int .i64)] λ(r:Int) _=>r=(min n.toNat m.toNat:Nat):=by
 refine Ct.eO ?_;unfold Sh.eO;refine fV (fV (rt1 (c:=.int .i64) _ (Ext.refl _ _) ?_));split<;>split<;>omega
theorem limb_Norm(h:Nt w s x)(hn:sz x≤1099511627776):Ct Pg F.aF [s.v] w aa [.one .slice] λ(s':Sl) w'=>On w' w.w.heap.size s' x:=by
 refine Ct.aF ?_;unfold Sh.aF;refine tr h.here λs1 w1 hx h1=>h1.copy hx.size hn λs2 w2 h2 hx2 _=>?_
 exact rt1 (c:=.slice) _ (hx.trans hx2) h2.at
def ij(x y:Nat):Int:=if x<y then -1 else if x=y then 0 else 1
theorem ef{x y:Nat}:ij x y<0↔x<y:=by unfold ij;split<;>(try split)<;>omega
theorem mY{x y:Nat}:ij x y=0↔x=y:=by unfold ij;split<;>(try split)<;>omega
theorem pD{x y:Nat}:0<ij x y↔y<x:=by unfold ij;split<;>(try split)<;>omega
theorem limb_Cmp{t:Sl}{y:Nat}(hs:Nt w s x)(ht:Nt w t y):Ct Pg F.cO [s.v,t.v] w aa [.one (.int .i64)] λ(r:Int) _=>r=ij x y:=by
 obtain⟨l,hs,rfl⟩:=hs;obtain⟨m,ht,rfl⟩:=ht;refine Ct.cO ?_;unfold Sh.cO;refine c1 (api_Nat_Len hs.here) ?_;rintro r w1 hx rfl;refine c1 (api_Nat_Len (ht.here.ext hx)) ?_;rintro r w2 hx2 rfl;have hx:=hx.trans hx2;refine aG (λh0=>?_) (λh0=>?_)
 ·have h0:sz (vl W64 l)≠sz (vl W64 m):=by intro h;simp [h] at h0
  refine ac (λh1=>?_) (λh1=>?_)
  ·refine rt1 (c:=.int .i64) _ hx ?_;rw [ij,if_pos];exact Nat.lt_of_not_le λh=>by have:=aq h;omega
  ·refine rt1 (c:=.int .i64) _ hx ?_;have:¬vl W64 l≤vl W64 m:=λh=>by have:=aq h;omega
   rw [ij,if_neg om,if_neg om]
 ·have h0:sz (vl W64 l)=sz (vl W64 m):=by simp at h0;omega
  have hl:=hs.len;have hm:=ht.len;have hl1:=df hs.sm;have hm1:=df ht.sm;have hc:=hs.le;refine ab om om ?_;have hzl:=pB W2 hs.sm;have hzm:=pB W2 ht.sm;refine jn (λw'=>Ext aa w.here w'∧vl W64 l=vl W64 m) ?_ ?_
  ·refine lp1 (λk (i:Int) w'=>∃j:Nat,i=j-1∧k=j∧j≤l.length∧j≤m.length∧vl W64 (l.drop j)=vl W64 (m.drop j)∧Ext aa w.here w') (sz (vl W64 l)) ⟨sz (vl W64 l),rfl,rfl,om,om,?_,hx⟩ ?_
   ·rw [sz] at h0 hl1 ⊢;rw [hzl,h0];exact hzm.symm
   ·rintro k i w' ⟨j,rfl,rfl,hj,hj2,he,hx⟩;refine ac (λh1=>?_) (λh1=>?_)
    ·have hs1:=(hs.here.ext hx).drew;have ht1:=(ht.here.ext hx).drew;have e1:(k:Int)-1=(k-1:Nat):=om;refine hs1.idx e1 om (ht1.idx e1 om ?_);have hsp1:=i4 W64 (l.drop (k-1)) 1 (by simp;omega);have hsp2:=i4 W64 (m.drop (k-1)) 1 (by simp;omega);rw [List.drop_drop,show k-1+1=k by omega] at hsp1 hsp2;have ht1':(l.drop (k-1)).take 1=[l[k-1]]:=by rw [List.drop_eq_getElem_cons (by omega:k-1<l.length),List.take_succ_cons];rfl
     have ht2':(m.drop (k-1)).take 1=[m[k-1]]:=by rw [List.drop_eq_getElem_cons (by omega:k-1<m.length),List.take_succ_cons];rfl
     refine aG (λh2=>?_) (λh2=>?_)
     ·have h2:l[k-1]≠m[k-1]:=by simp at h2;omega
      refine hs1.drew.idx e1 om (ht1.drew.idx e1 om ?_);refine ac (λh3=>?_) (λh3=>?_)
      ·refine rt1 (c:=.int .i64) _ hx.drew.drew ?_;rw [ij,if_pos];exact lw hs.sm (k:=k-1) (m:=m) om om om (by rw [show k-1+1=k by omega,he];exact Nat.le_refl _)
      ·refine rt1 (c:=.int .i64) _ hx.drew.drew ?_;have:=lw ht.sm (k:=k-1) (m:=l) om om om (by rw [show k-1+1=k by omega,he];exact Nat.le_refl _);rw [ij,if_neg om,if_neg om]
     ·have h2:l[k-1]=m[k-1]:=by simp at h2;omega
      refine ab om om ⟨k-1,om,k-1,om,rfl,om,om,?_,hx.drew⟩;rw [hsp1,hsp2,ht1',ht2',h2,he]
    ·refine⟨hx,?_⟩;have:k=0:=om;subst this;simpa using he
  ·rintro w' ⟨hx,he⟩;refine rt1 (c:=.int .i64) _ hx ?_;rw [ij,if_neg om,if_pos he]
end
section
variable {A B P a b c c' p s:Nat}
theorem abG(h:P+p*c=A)(hs:s=(a+b+c)%B)(hc:c'=(a+b+c)/B):P+p*s+p*B*c'=A+p*(a+b):=by
 have:=Nat.mod_add_div (a+b+c) B;subst hs hc;grind
theorem aaC{Q:Nat}(h:P+Q=A+p*c)(ha:a<B)(hb:b<B)(hc1:c≤1)(hs:s=(a+B-b-c)%B)(hc:c'=if a<b+c then 1 else 0):P+p*s+(Q+p*b)=A+p*a+p*B*c':=by
 have h2:s+b+c=a+B*c':=by
  subst hs hc;split
  ·rw [Nat.mod_eq_of_lt om];omega
  ·rw [show a+B-b-c=a-b-c+B by omega,Nat.add_mod_right,Nat.mod_eq_of_lt om];omega
 grind
theorem limb_Add{w:TW}{s t:Sl}{x y:Nat}(hs:Nt w s x)(ht:Nt w t y)(hx:sz x≤1099511627776)(hy:sz y≤1099511627776):Ct Pg F.bG [s.v,t.v] w aa [.one .slice] λ(s':Sl) w'=>On w' w.w.heap.size s' (x+y):=by
 refine Ct.bG ?_;unfold Sh.bG;refine tr hs.here λs1 w1 e1 h1=>tr (ht.here.ext e1) λs2 w2 e2 h2=>?_
 have h1:=h1.ext e2;have e:=e1.trans e2;have l1:=h1.len;have l2:=h2.len;refine j2 (λ(a b:Sl) w3=>∃X Y,Rd w3 a (dg W64 X)∧Rd w3 b (dg W64 Y)∧X+Y=x+y∧sz Y≤sz X∧sz X≤1099511627776∧Ext aa w.here w3) ?_ ?_
 ·refine ac (λh0=>?_) (λh0=>?_)
  ·exact⟨y,x,h2,h1,Nat.add_comm _ _,by simp only [sz];omega,hy,e⟩
  ·exact⟨x,y,h1,h2,rfl,by simp only [sz];omega,hx,e⟩
 rintro a b w3 ⟨X,Y,ha,hb,hXY,hle,hX,e⟩;have la:=ha.len;rw [aA] at la;refine ab om om (bW (N:=sz X+1) om om λo w4 ho hon e4 hbk=>?_);refine j1 (λ(c:Int) w5=>∃(P:List Nat) (d:Nat),c=d∧d≤1∧P.length=sz X∧vl W64 P+W64^sz X*d=X+Y∧Ow w5 w3.w.heap.size o (P++[0])∧Ext aa w3 w5) ?_ ?_
 ·refine lp2 (λm (c i:Int) w5=>∃(j d:Nat) (P:List Nat),c=d∧i=j∧m=sz X-j∧j≤sz X∧d≤1∧P.length=j∧vl W64 P+W64^j*d=vl W64 ((dg W64 X).take j)+vl W64 ((dg W64 Y).take j)∧Ow w5 w3.w.heap.size o (P++List.replicate (sz X+1-j) 0)∧Ext aa w3 w5) (sz X) ⟨0,0,[],rfl,rfl,om,om,om,rfl,rfl,ho,e4⟩ ?_;rintro m c i w5 ⟨j,d,P,rfl,rfl,rfl,hj,hd,hP,hv,ho,e5⟩;refine ac (λh0=>?_) (λh0=>?_)
  ·have hj1:j<(dg W64 X).length:=by rw [aA];omega
   refine (hb.ext e5).at0 rfl ((ha.ext e5).ix rfl hj1 ⟨_,_,_,rfl,rfl,rfl,hd,?_⟩);rw [show sz X+1-j=(sz X-j)+1 by omega] at ho;refine ho.put om (Nat.mod_lt _ dcd) rfl λw6 ho e6=>?_
   refine ab om om ⟨sz X-(j+1),om,j+1,_,P++[_],rfl,om,rfl,om,?_,by simp [hP],?_,by rw [show sz X+1-(j+1)=sz X-j by omega];exact ho,e5.own e6 ho.blk_le⟩
   ·have h3:=ha.lt j;have h4:=hb.lt j;omega
   ·rw [gG,hP,Nat.pow_succ,abG hv rfl rfl,aj,aj];grind
  ·have hj:j=sz X:=om;subst hj;refine⟨P,d,rfl,hd,hP,?_,by rwa [show sz X+1-sz X=1 by omega] at ho,e5⟩;rw [hv,aJ (by simp [sz]),aJ (by simpa [sz] using hle),aV W2,aV W2]
 ·rintro c w5 ⟨P,d,rfl,hd,hP,hv,ho,e5⟩;refine ho.put (k:=0) om (ad4 hd) rfl λw6 ho e6=>?_
  have e5:=e5.own e6 ho.blk_le;refine trO ho λs' w7 e7 h7=>rt1 (c:=.slice) _ ((e.trans e5).trans e7) ?_
  rw [List.replicate_zero,List.append_nil,gG,hP,hv,hXY] at h7;exact (h7.less e.size).at
end
theorem adi(M x y:Nat):x*y=M*M*(x/M*(y/M)+(x/M*(y%M)+x%M*(y%M)/M)/M+((x/M*(y%M)+x%M*(y%M)/M)%M+x%M*(y/M))/M)+(M*(((x/M*(y%M)+x%M*(y%M)/M)%M+x%M*(y/M))%M)+x%M*(y%M)%M):=by
 have hx:=Nat.div_add_mod x M;have hy:=Nat.div_add_mod y M;have h4:=Nat.div_add_mod (x%M*(y%M)) M;have h7:=Nat.div_add_mod (x/M*(y%M)+x%M*(y%M)/M) M;have h11:=Nat.div_add_mod ((x/M*(y%M)+x%M*(y%M)/M)%M+x%M*(y/M)) M;generalize x/M=a at*;generalize x%M=b at*;generalize y/M=c at*;generalize y%M=d at*;generalize b*d/M=n6 at*;generalize b*d%M=r0 at*;generalize (a*d+n6)/M=n9 at*;generalize (a*d+n6)%M=n8 at*;generalize (n8+b*c)/M=n14 at*;generalize (n8+b*c)%M=r1 at*;subst hx hy;grind
theorem bits_Mul64{w:TW}{x y:Nat}(hx:x<W64)(hy:y<W64):Ct Pg F.aL [.int .u64 x,.int .u64 y] w aa [.one (.int .u64),.one (.int .u64)] λ(hi lo:Int) _=>hi=(x*y/W64:Nat)∧lo=(x*y%W64:Nat):=by
 refine Ct.aL ?_;unfold Sh.aL;have e:=adi 4294967296 x y;have e32:(2:Nat)^32=4294967296:=dcd;have hW:W64=4294967296*4294967296:=dcd;have h1:x/4294967296<4294967296:=Nat.div_lt_of_lt_mul (by rwa [←hW]);have h3:y/4294967296<4294967296:=Nat.div_lt_of_lt_mul (by rwa [←hW]);have h0:x%4294967296<4294967296:=Nat.mod_lt _ dcd;have h2:y%4294967296<4294967296:=Nat.mod_lt _ dcd;have hxy:x*y<W64*W64:=Nat.mul_lt_mul'' hx hy;refine mZ (x:=x) (k:=32) rfl dcd hx dcd ?_;refine jC (x:=x) (n:=32) rfl rfl dcd ?_;refine mZ (x:=y) (k:=32) rfl dcd hy dcd ?_;refine jC (x:=y) (n:=32) rfl rfl dcd ?_;rw [e32];generalize x/4294967296=a at*;generalize x%4294967296=b at*;generalize y/4294967296=c at*;generalize y%4294967296=d at*;have hbd:b*d≤4294967295*4294967295:=Nat.mul_le_mul om om;have had:a*d≤4294967295*4294967295:=Nat.mul_le_mul om om
 have hbc:b*c≤4294967295*4294967295:=Nat.mul_le_mul om om;have hac:a*c≤4294967295*4294967295:=Nat.mul_le_mul om om;refine ai (y:=b*d) smp (by rw [w64];omega) ?_;refine ai (y:=a*d) smp (by rw [w64];omega) ?_;refine jC (x:=b*d) (n:=32) rfl rfl dcd ?_;rw [e32];refine ai (y:=a*d+b*d/4294967296) smp (by rw [w64];omega) ?_;refine mZ (x:=a*d+b*d/4294967296) (k:=32) rfl dcd (by rw [w64];omega) dcd ?_;refine jC (x:=a*d+b*d/4294967296) (n:=32) rfl rfl dcd ?_;rw [e32];refine ai (y:=b*c) smp (by rw [w64];omega) ?_;refine ai (y:=(a*d+b*d/4294967296)%4294967296+b*c) smp (by rw [w64];omega) ?_;refine ai (y:=a*c) smp (by rw [w64];omega) ?_;refine ai (y:=a*c+(a*d+b*d/4294967296)/4294967296) smp (by rw [w64];omega) ?_;refine jC (x:=(a*d+b*d/4294967296)%4294967296+b*c) (n:=32) rfl rfl dcd ?_;rw [e32]
 have hH:a*c+(a*d+b*d/4294967296)/4294967296+((a*d+b*d/4294967296)%4294967296+b*c)/4294967296=x*y/W64:=by
  rw [e];generalize a*c+(a*d+b*d/4294967296)/4294967296+((a*d+b*d/4294967296)%4294967296+b*c)/4294967296=H;rw [hW];omega
 refine ai (y:=x*y/W64) (by rw [←hH];simp) (Nat.div_lt_of_lt_mul hxy) ?_;refine gy (y:=x*y) smp ?_;exact rt2 (c:=.int .u64) (d:=.int .u64) _ _ (Ext.refl _ _) ⟨rfl,rfl⟩
section
variable {w:TW} {s t:Sl} {x y z:Nat}
theorem limb_Sub(hs:Nt w s x)(ht:Nt w t y)(hx:sz x≤1099511627776):Ct Pg F.aP [s.v,t.v] w aa [.one .slice,.one .bool] λ(s':Sl)(ok:Bool) w'=>ok=decide (y≤x)∧On w' w.w.heap.size s' (x-y):=by
 refine Ct.aP ?_;unfold Sh.aP;refine tr hs.here λs1 w1 e1 h1=>tr (ht.here.ext e1) λs2 w2 e2 h2=>?_
 have h1:=h1.ext e2;refine c1 (limb_Cmp h1.nt h2.nt) ?_;rintro r w3 e3 rfl;have e:=(e1.trans e2).trans e3;have ha:=h1.ext e3;have hb:=h2.ext e3;rw [aV W2,aV W2];refine ac (λh0=>?_) (λh0=>?_)
 ·have h0:x<y:=ef.1 h0;refine rt2 (c:=.slice) (d:=.bool) Sl.nil false e ⟨by simp;omega,?_⟩;rw [show x-y=0 by omega];exact On.nil _ _
 have h0:y≤x:=Nat.not_lt.1 λh=>h0 (ef.2 h)
 have hle:=aq h0;have la:=ha.len;rw [aA] at la;refine bW (N:=sz x) om om λo w4 ho hon e4 hbk=>?_
 refine j0 (λw5=>∃(P:List Nat),vl W64 P=x-y∧Ow w5 w3.w.heap.size o P∧Ext aa w3 w5) ?_ ?_
 ·refine lp2 (λm (c i:Int) w5=>∃(j d:Nat) (P:List Nat),c=d∧i=j∧m=sz x-j∧j≤sz x∧d≤1∧P.length=j∧vl W64 P+vl W64 ((dg W64 y).take j)=vl W64 ((dg W64 x).take j)+W64^j*d∧Ow w5 w3.w.heap.size o (P++List.replicate (sz x-j) 0)∧Ext aa w3 w5) (sz x) ⟨0,0,[],rfl,rfl,om,om,om,rfl,rfl,ho,e4⟩ ?_;rintro m c i w5 ⟨j,d,P,rfl,rfl,rfl,hj,hd,hP,hv,ho,e5⟩;refine ac (λh0=>?_) (λh0=>?_)
  ·have hj1:j<(dg W64 x).length:=by rw [aA];omega
   refine (hb.ext e5).at0 rfl ((ha.ext e5).ix rfl hj1 ⟨_,_,_,rfl,rfl,rfl,hd,?_⟩);rw [show sz x-j=(sz x-(j+1))+1 by omega] at ho;refine ho.put om (Nat.mod_lt _ dcd) rfl λw6 ho e6=>?_
   refine ab om om ⟨sz x-(j+1),om,j+1,_,P++[_],rfl,om,rfl,om,?_,by simp [hP],?_,ho,e5.own e6 ho.blk_le⟩
   ·split<;>omega
   ·rw [gG,hP,Nat.pow_succ,aj,aj];exact aaC hv (ha.lt j) (hb.lt j) hd rfl rfl
  ·have hj:j=sz x:=om;subst hj;rw [aJ (l:=dg W64 y) (by rw [aA];exact hle),aJ (l:=dg W64 x) (by rw [aA];exact Nat.le_refl _),aV W2,aV W2] at hv;rw [Nat.sub_self,List.replicate_zero,List.append_nil] at ho;refine⟨P,?_,ho,e5⟩;have:=jQ ho.sm;rw [hP] at this
   have:d=0:=by
    rcases Nat.eq_zero_or_pos d with h|h
    ·exact h
    ·have:d=1:=om;subst this;omega
   subst this;omega
 ·rintro w5 ⟨P,hv,ho,e5⟩;refine trO ho λs' w7 e7 h7=>rt2 (c:=.slice) (d:=.bool) _ _ ((e.trans e5).trans e7) ⟨by simp [h0],?_⟩
  rw [hv] at h7;exact (h7.less e.size).at
theorem vo{B p L L' v lo hi c s3 c1 s4 c2 c' b A Q:Nat}(hp:hi*B+lo=b*y)(h1:s3=(lo+c+0)%B)(h2:c1=(lo+c+0)/B)(h3:s4=(v+s3+0)%B)(h4:c2=(v+s3+0)/B)(hc:c'=hi+c1+c2)(hL:L'+p*v=L+p*s4)(hi0:L+p*c=A+Q*y):L'+p*B*c'=A+(Q+p*b)*y:=by
 rw [Nat.add_zero] at h1 h2 h3 h4;have e1:=Nat.div_add_mod (lo+c) B;have e2:=Nat.div_add_mod (v+s3) B;rw [←h1,←h2] at e1;rw [←h3,←h4] at e2;have e3:s4+B*c'=v+c+b*y:=by subst hc;grind
 have e4:p*s4+p*(B*c')=p*v+p*c+p*(b*y):=by rw [←Nat.mul_add,e3];grind
 grind
theorem limb_AddMul(hs:Nt w s x)(ht:Nt w t z)(hy:y<W64)(hx:sz x≤1099511627776)(hz:sz z≤1099511627776):Ct Pg F.fD [s.v,t.v,.int .u64 y] w aa [.one .slice] λ(s':Sl) w'=>On w' w.w.heap.size s' (x+z*y):=by
 refine Ct.fD ?_;unfold Sh.fD;refine tr hs.here λs1 w1 e1 h1=>tr (ht.here.ext e1) λs2 w2 e2 h2=>?_
 have ha:=h1.ext e2;have e:=e1.trans e2;have la:=ha.len;have hb:=h2;have lb:=hb.len;rw [aA] at la lb;obtain⟨N,hN⟩:∃N,N=max (sz z+1) (sz x)+1:=⟨_,rfl⟩;have hNe:sz x≤N∧sz z≤N∧N≤1099511627780:=om
 have hbig:x+z*y<W64^N:=by
  refine lK (Nat.le_trans (kI _ _) ?_);have:=dt z y;have:=gI hy;omega
 refine ab om om ?_;refine fV ?_;refine ab (by split<;>omega) (by split<;>omega) ?_;refine bW (N:=N) (by split<;>omega) om λo w4 ho hon e4 hbk=>?_
 refine ho.cpy (ha.ext e4) (by simp [aA];omega) λw5 ho e5=>?_
 have e5:=e4.own e5 ho.blk_le;clear e4;refine j0 (λw6=>∃(P:List Nat),vl W64 P=x+z*y∧Ow w6 w2.w.heap.size o P∧Ext aa w2 w6) ?_ ?_
 ·refine lp2 (λm (c i:Int) w6=>∃(j d:Nat) (P:List Nat),c=d∧i=j∧m=N-j∧j≤N∧d<W64∧P.length=N∧vl W64 P+W64^j*d=x+vl W64 ((dg W64 z).take j)*y∧Ow w6 w2.w.heap.size o P∧Ext aa w2 w6) N ⟨0,0,_,rfl,rfl,om,om,dcd,by simp [aA];omega,?_,ho,e5⟩ ?_
  ·rw [dY,aV W2,List.drop_replicate,jP];simp [gw]
  rintro m c i w6 ⟨j,d,P,rfl,rfl,rfl,hj,hd,hP,hv,ho,e6⟩
  have hfin:d=0→sz z≤j→vl W64 P=x+z*y:=λh1 h2=>by
   subst h1;rw [aJ (by simpa [aA] using h2),aV W2] at hv;simpa using hv
  refine ac (λh0=>?_) (λh0=>?_)
  ·refine j1 (λ(b:Bool) w7=>w7=w6∧b=decide (sz z≤j∧d=0)) ?_ ?_
   ·refine ac (λh1=>?_) (λh1=>?_)
    ·refine⟨rfl,?_⟩;rw [Bool.eq_iff_iff];simp;omega
    ·refine⟨rfl,?_⟩;rw [Bool.eq_iff_iff];simp;omega
   rintro b w7 ⟨rfl,rfl⟩;refine ac (λh1=>⟨P,hfin h1.2 h1.1,ho,e6⟩) (λh1=>?_);refine j2 (λ(hi lo:Int) w8=>hi=((dg W64 z).getD j 0*y/W64:Nat)∧lo=((dg W64 z).getD j 0*y%W64:Nat)∧Ext aa w7 w8) ?_ ?_
   ·refine ac (λh2=>?_) (λh2=>?_)
    ·refine (hb.ext e6).ix rfl (by rw [aA];omega) ?_;refine c2 (bits_Mul64 (hb.lt j) hy) ?_;rintro hi lo w8 e8 ⟨rfl,rfl⟩;exact⟨rfl,rfl,e8⟩
    ·have:(dg W64 z).getD j 0=0:=jF (by rw [aA];omega);rw [this];refine⟨smp,smp,Ext.refl _ _⟩
   rintro hi lo w8 ⟨rfl,rfl,e8⟩;have e6:=e6.trans e8;have ho:=ho.ext e8;clear e8;have hgo:vl W64 ((dg W64 z).take (j+1))=vl W64 ((dg W64 z).take j)+W64^j*(dg W64 z).getD j 0:=aj _ _ _;have h3:=hb.lt j;generalize (dg W64 z).getD j 0=bj at*;have hm:=Nat.div_add_mod (bj*y) W64
   have hlt:bj*y+d+P.getD j 0<W64*W64:=by
    have h4:=ho.rd.lt j;have:bj*y≤18446744073709551615*18446744073709551615:=Nat.mul_le_mul om (by rw [w64] at hy;omega);rw [w64] at hd ⊢;omega
   generalize hH:bj*y/W64=H at*;generalize hL:bj*y%W64=L at*;generalize hV:P.getD j 0=V at*;have hL1:L<W64:=by rw [←hL];exact Nat.mod_lt _ dcd
   have hjP:j<P.length:=om;refine⟨L,d,0,rfl,rfl,rfl,om,?_⟩;rw [w64] at hm hlt hL1 hd;have hV1:=ho.rd.lt j;rw [hV] at hV1;refine ai (y:=H+(L+d+0)/18446744073709551616) smp (by rw [w64];omega) ?_;refine ho.rd.ix rfl hjP ?_;rw [hV];refine⟨V,(L+d+0)%18446744073709551616,0,rfl,rfl,rfl,om,?_⟩;refine ho.store (j:=j) rfl hjP (Nat.mod_lt _ dcd) rfl λw9 ho9 e9=>?_
   refine ai (y:=H+(L+d+0)/18446744073709551616+(V+(L+d+0)%18446744073709551616+0)/18446744073709551616) smp (by rw [w64];omega) ?_;refine ab om om ⟨N-(j+1),om,j+1,_,_,rfl,om,rfl,om,by rw [w64];omega,by simp [hP],?_,ho9,e6.own e9 ho9.blk_le⟩;rw [Nat.pow_succ,hgo];refine vo (by rw [w64];omega) rfl rfl rfl rfl rfl ?_ hv;have:=lu (b:=W64) hjP ((V+(L+d+0)%18446744073709551616+0)%18446744073709551616);rwa [show P[j]=V by rw [←hV];simp [hjP]] at this
  ·refine⟨P,?_,ho,e6⟩;have:j=N:=om;subst this;rw [aJ (by rw [aA];omega),aV W2] at hv;rcases Nat.eq_zero_or_pos d with h|h
   ·subst h;simpa using hv
   ·have:=Nat.mul_le_mul_left (W64^j) h;omega
 ·rintro w5 ⟨P,hv,ho,e5⟩;refine trO ho λs' w7 e7 h7=>rt1 (c:=.slice) _ ((e.trans e5).trans e7) ?_
  rw [hv] at h7;exact (h7.less e.size).at
theorem limb_MulWord(ht:Nt w t z)(hy:y<W64)(hz:sz z≤1099511627776):Ct Pg F.cN [t.v,.int .u64 y] w aa [.one .slice] λ(s':Sl) w'=>On w' w.w.heap.size s' (z*y):=by
 refine Ct.cN ?_;unfold Sh.cN;refine c1 (limb_AddMul (s:=Sl.nil) (x:=0) (t:=t) (z:=z) (y:=y) (Nt.nil _) ht.here hy (by rw [sz0];omega) hz) ?_;intro s' w' e h;rw [Nat.zero_add] at h;exact rt1 (c:=.slice) _ e h.at
theorem limb_SubMul(hs:Nt w s x)(ht:Nt w t z)(hy:y<W64)(hx:sz x≤1099511627776)(hz:sz z≤1099511627776):Ct Pg F.iV [s.v,t.v,.int .u64 y] w aa [.one .slice,.one .bool] λ(s':Sl)(ok:Bool) w'=>ok=decide (z*y≤x)∧On w' w.w.heap.size s' (x-z*y):=by
 refine Ct.iV ?_;unfold Sh.iV;refine c1 (limb_MulWord ht.here hy hz) ?_;intro s1 w1 e1 h1;refine c2 (limb_Sub (hs.here.ext e1) h1.nt hx) ?_;rintro s2 ok w2 e2 ⟨rfl,h2⟩;exact rt2 (c:=.slice) (d:=.bool) _ _ (e1.trans e2) ⟨rfl,(h2.less e1.size).at⟩
theorem limb_One(hy:y<W64):Ct Pg F.aX [.int .u64 y] w aa [.one .slice] λ(s':Sl) w'=>On w' w.w.heap.size s' y:=by
 refine Ct.aX ?_;unfold Sh.aX;refine aG (λh=>?_) (λh=>?_)
 ·have:y=0:=by simp at h;omega
  subst this;exact rt1 (c:=.slice) Sl.nil (Ext.refl _ _) (On.nil _ _)
 ·have h0:0<y:=by simp at h;omega
  refine vk rfl hy λb w' h e=>rt1 (c:=.slice) ⟨some ⟨b,0,none⟩,1,1⟩ e ?_
  have e1:dg W64 y=[y]:=by rw [ke W2 h0,Nat.mod_eq_of_lt hy,Nat.div_eq_of_lt hy,az]
  rw [On,e1];exact h.at
end
theorem kw:W64=2^64:=dcd
theorem pN(n:Nat):2^n=W64^(n/64)*2^(n%64):=by
 rw [kw,←Nat.pow_mul,←Nat.pow_add,Nat.div_add_mod]
theorem bQ{l:List Nat}(h:Sm W64 l)(k:Nat):vl W64 (l.drop k)=vl W64 l/W64^k∧vl W64 (l.take k)=vl W64 l%W64^k:=by
 rcases Nat.lt_or_ge l.length k with hk|hk
 ·have hlt:vl W64 l<W64^k:=Nat.lt_of_lt_of_le (jQ h) (Nat.pow_le_pow_right dcd (Nat.le_of_lt hk));rw [List.drop_of_length_le (Nat.le_of_lt hk),List.take_of_length_le (Nat.le_of_lt hk),Nat.div_eq_of_lt hlt,Nat.mod_eq_of_lt hlt];exact⟨rfl,rfl⟩
 ·have h1:=i4 W64 l k hk;have h2:=jQ (h.take k);rw [List.length_take,Nat.min_eq_left hk] at h2;have h3:0<W64^k:=Nat.pow_pos dcd;rw [h1,Nat.add_mul_div_left _ _ h3,Nat.div_eq_of_lt h2,Nat.zero_add,Nat.add_mul_mod_self_left,Nat.mod_eq_of_lt h2];exact⟨rfl,rfl⟩
theorem acK(x k:Nat):(dg W64 x).drop k=dg W64 (x/W64^k):=by
 have h:=(bQ (l8 W2 x) k).1;rw [aV W2] at h;rw [←h];refine (pC W2 ((l8 W2 x).drop k) λy hy=>?_).symm;rw [List.getLast?_drop] at hy;split at hy
 ·cases hy
 ·exact acJ W2 x y hy
theorem limb_Shl{w:TW}{s:Sl}{x:Nat}{n:Int}(hs:Nt w s x)(hx:sz x≤1099511627776):Ct Pg F.bV [s.v,.int .i64 n] w aa [.one .slice] λ(s':Sl) w'=>On w' w.w.heap.size s' (x*2^min n.toNat 1048576):=by
 refine Ct.bV ?_;unfold Sh.bV;refine c1 (limb_within dcd) ?_;rintro r w1 e1 rfl;refine tr (hs.here.ext e1) λs2 w2 e2 ha=>?_
 have e:=e1.trans e2;have la:=ha.len;rw [aA] at la;have hn:min n.toNat (1048576:Int).toNat≤1048576:=om;rw [show (1048576:Int).toNat=1048576 by rfl] at hn ⊢;generalize min n.toNat 1048576=N at*;refine aG (λh0=>?_) (λh0=>?_)
 ·have:sz x=0:=by simp at h0;omega
  rw [kz] at this;subst this;refine rt1 (c:=.slice) Sl.nil e ?_;rw [Nat.zero_mul];exact On.nil _ _
 refine jb (x:=N) (y:=64) rfl rfl om dcd (eP (x:=N) (y:=64) rfl rfl dcd ?_);refine ai (y:=N%64) rfl (by rw [w64];omega) (ab om om (ab om om ?_));obtain⟨k,hk⟩:∃k,k=N/64:=⟨_,rfl⟩;obtain⟨b,hb⟩:∃b,b=N%64:=⟨_,rfl⟩;have hkb:2^N=W64^k*2^b:=by rw [hk,hb];exact pN N
 rw [←hk,←hb];have hb64:b<64:=om;have hk1:k≤16384:=om;clear hk hb;have hpb:0<2^b:=Nat.two_pow_pos b;have hbb:2^b*2^(64-b)=W64:=by rw [←Nat.pow_add,kw];congr 1;omega
 refine bW (N:=sz x+k+1) om om λo w4 ho hon e4 hbk=>?_
 refine j0 (λw5=>∃(P:List Nat),vl W64 P=x*2^N∧Ow w5 w2.w.heap.size o P∧Ext aa w2 w5) ?_ ?_
 ·refine lp1 (λm (i:Int) w5=>∃(j t:Nat) (P:List Nat),i=j∧m=sz x-j∧j≤sz x∧P.length=k+j∧t<2^b∧vl W64 P+W64^(k+j)*t=vl W64 ((dg W64 x).take j)*2^N∧Ow w5 w2.w.heap.size o (P++t::List.replicate (sz x-j) 0)∧Ext aa w2 w5) (sz x) ⟨0,0,List.replicate k 0,rfl,om,om,smp,hpb,?_,?_,e4⟩ ?_
  ·rw [jP];simp [gw]
  ·rwa [show List.replicate k 0++0::List.replicate (sz x-0) 0=List.replicate (sz x+k+1) 0 by
    rw [show (0:Nat)::List.replicate (sz x-0) 0=List.replicate (sz x+1) 0 by simp [List.replicate_succ],List.replicate_append_replicate];congr 1;omega]
  rintro m i w5 ⟨j,t,P,rfl,rfl,hj,hP,ht,hv,ho,e5⟩;refine ac (λh0=>?_) (λh0=>?_)
  ·have hj1:j<(dg W64 x).length:=by rw [aA];omega
   refine (ha.ext e5).ix rfl hj1 ?_;have hd:=ha.lt j;have hgo:=aj W64 (dg W64 x) j;generalize (dg W64 x).getD j 0=v at*;refine ab om om (ab om om ?_);have hg:((P++t::List.replicate (sz x-j) 0).getD (k+j) 0)=t:=by simp [hP]
   refine ho.rd.ix (j:=k+j) om (by simp [hP]) ?_;rw [hg];refine oy (x:=v) (n:=b) rfl rfl om ?_;have htW:t<W64:=Nat.lt_of_lt_of_le ht (by rw [kw];exact Nat.pow_le_pow_right dcd om)
   have hdvd:2^b ∣ v*2^b%W64:=by
    rw [←hbb,Nat.mul_comm v,Nat.mul_mod_mul_left];exact Nat.dvd_mul_right _ _
   have hsum:t+v*2^b%W64<W64:=by
    obtain⟨q,hq⟩:=hdvd;have h1:v*2^b%W64<W64:=Nat.mod_lt _ dcd;rw [hq] at h1 ⊢;have:q<2^(64-b):=Nat.lt_of_mul_lt_mul_left (by rw [hbb];exact h1);have:=Nat.mul_le_mul_left (2^b) this;rw [hbb,Nat.mul_succ] at this;omega
   refine uj (k:=b) rfl rfl htW (Nat.mod_lt _ dcd) hdvd ht ?_;refine ho.store (j:=k+j) om (by simp [hP]) hsum rfl λw6 ho6 e6=>?_
   have e6:=e5.own e6 ho.blk_le
   have hset:(P++t::List.replicate (sz x-j) 0).set (k+j) (t+v*2^b%W64)=(P++[t+v*2^b%W64])++0::List.replicate (sz x-(j+1)) 0:=by
    rw [show sz x-j=sz x-(j+1)+1 by omega,List.replicate_succ,←hP];simp
   rw [hset] at ho6;have hdm:=Nat.div_add_mod (v*2^b) W64
   have hv':vl W64 (P++[t+v*2^b%W64])+W64^(k+(j+1))*(v*2^b/W64)=vl W64 ((dg W64 x).take (j+1))*2^N:=by
    rw [gG,hP,hgo,←Nat.add_assoc,Nat.pow_succ];have:W64^j*v*2^N=W64^(k+j)*(v*2^b):=by rw [hkb,Nat.pow_add];grind
    rw [Nat.add_mul,←hv,this,←hdm];grind
   have htop:v*2^b/W64<2^b:=by
    refine Nat.div_lt_of_lt_mul ?_;exact Nat.mul_lt_mul_of_pos_right hd hpb
   refine j0 (λw7=>Ow w7 w2.w.heap.size o ((P++[t+v*2^b%W64])++(v*2^b/W64)::List.replicate (sz x-(j+1)) 0)∧Ext aa w2 w7) ?_ ?_
   ·refine ac (λhb0=>?_) (λhb0=>?_)
    ·refine ab om om (ab om om ?_);refine ai (y:=64-b) om (by rw [w64];omega) ?_;refine jC (x:=v) (n:=64-b) rfl rfl (by show _≤64;omega) ?_;have hq:v/2^(64-b)=v*2^b/W64:=by rw [←hbb,Nat.mul_comm v,Nat.mul_div_mul_left _ _ hpb]
     rw [hq];refine ho6.store (j:=k+j+1) om (by simp [hP]) (Nat.lt_of_lt_of_le htop (by rw [kw];exact Nat.pow_le_pow_right dcd om)) rfl λw8 ho8 e8=>?_
     refine⟨?_,e6.own e8 ho6.blk_le⟩;rw [←hP,show P.length+1=(P++[t+v*2^b%W64]).length by simp] at ho8;simpa using ho8
    ·have:b=0:=om;subst this;have:v*2^0/W64=0:=Nat.div_eq_of_lt (by simpa using hd);rw [this];exact⟨ho6,e6⟩
   rintro w7 ⟨ho7,e7⟩;exact ab om om ⟨sz x-(j+1),om,j+1,_,_,om,rfl,om,by simp [hP];omega,htop,hv',ho7,e7⟩
  ·have:j=sz x:=om;subst this;refine⟨_,?_,ho,e5⟩;rw [aJ (by rw [aA];exact Nat.le_refl _),aV W2] at hv;rw [Nat.sub_self,List.replicate_zero,gG,hP,hv]
 ·rintro w5 ⟨P,hv,ho,e5⟩;refine trO ho λs' w7 e7 h7=>rt1 (c:=.slice) _ ((e.trans e5).trans e7) ?_
  rw [hv] at h7;exact (h7.less e.size).at
section
variable {x:Nat} {w:TW} {s:Sl} {n:Int}
theorem ux{k b:Nat}(h:sz x≤k):x/(W64^k*b)=0:=by
 rw [←Nat.div_div_eq_div_mul,Nat.div_eq_of_lt (lK h),Nat.zero_div]
theorem limb_Shr(hs:Nt w s x)(hx:sz x≤1099511627776):Ct Pg F.bU [s.v,.int .i64 n] w aa [.one .slice] λ(s':Sl) w'=>On w' w.w.heap.size s' (x/2^min n.toNat 1048576):=by
 refine Ct.bU ?_;unfold Sh.bU;refine c1 (limb_within dcd) ?_;rintro r w1 e1 rfl;refine tr (hs.here.ext e1) λs2 w2 e2 ha=>?_
 have e:=e1.trans e2;have la:=ha.len;rw [aA] at la;have hn:min n.toNat (1048576:Int).toNat≤1048576:=om;rw [show (1048576:Int).toNat=1048576 by rfl] at hn ⊢;generalize min n.toNat 1048576=N at*;refine jb (x:=N) (y:=64) rfl rfl om dcd (eP (x:=N) (y:=64) rfl rfl dcd ?_);refine ai (y:=N%64) rfl (by rw [w64];omega) ?_;obtain⟨k,hk⟩:∃k,k=N/64:=⟨_,rfl⟩;obtain⟨b,hb⟩:∃b,b=N%64:=⟨_,rfl⟩;have hkb:2^N=W64^k*2^b:=by rw [hk,hb];exact pN N
 rw [←hk,←hb];have hb64:b<64:=om;have hk1:k≤16384:=om;clear hk hb;have hpb:0<2^b:=Nat.two_pow_pos b;have hbb:2^b*2^(64-b)=W64:=by rw [←Nat.pow_add,kw];congr 1;omega
 refine ac (λh0=>?_) (λh0=>?_)
 ·refine rt1 (c:=.slice) Sl.nil e ?_;rw [hkb,ux om];exact On.nil _ _
 have h0:k<sz x:=om;refine ab om om ?_;refine bW (N:=sz x-k) om om λo w4 ho hon e4 hbk=>?_
 obtain⟨D,hD⟩:∃D,D=(dg W64 x).drop k:=⟨_,rfl⟩;have hDl:D.length=sz x-k:=by rw [hD];simp [aA]
 have hDv:vl W64 D=x/W64^k:=by rw [hD,(bQ (l8 W2 x) k).1,aV W2]
 have hDg:∀i,(dg W64 x).getD (i+k) 0=D.getD i 0:=λi=>by rw [hD];simp [Nat.add_comm]
 have hDlt:∀i,D.getD i 0<W64:=λi=>by rw [←hDg];exact ha.lt _
 refine j0 (λw5=>∃(P:List Nat),vl W64 P=x/2^N∧Ow w5 w2.w.heap.size o P∧Ext aa w2 w5) ?_ ?_
 ·refine lp1 (λm (i:Int) w5=>∃(j:Nat) (P:List Nat),i=j∧m=D.length-j∧j≤D.length∧P.length=j∧2^b*vl W64 P+D.getD 0 0%2^b=vl W64 (D.take j)+W64^j*(D.getD j 0%2^b)∧Ow w5 w2.w.heap.size o (P++List.replicate (D.length-j) 0)∧Ext aa w2 w5) D.length ⟨0,[],rfl,om,om,rfl,by simp [gw],by rw [hDl];exact ho,e4⟩ ?_;rintro m i w5 ⟨j,P,rfl,rfl,hj,hP,hv,ho,e5⟩;refine ac (λh1=>?_) (λh1=>?_)
  ·have hj1:j<D.length:=om;refine ab om om ?_;refine (ha.ext e5).ix (j:=j+k) om (by rw [aA];omega) ?_;rw [hDg];have hd:=hDlt j;have hd1:=hDlt (j+1);have hgo:=aj W64 D j;have hpast:D.length≤j+1→D.getD (j+1) 0=0:=λh=>jF h
   generalize hv0:D.getD j 0=v at*;generalize hu0:D.getD (j+1) 0=u at*;refine jC (x:=v) (n:=b) rfl rfl (by show _≤64;omega) ?_;have hq:v/2^b<W64:=Nat.lt_of_le_of_lt (Nat.div_le_self _ _) hd;rw [show D.length-j=(D.length-(j+1))+1 by omega] at ho;refine ho.put om hq rfl λw6 ho6 e6=>?_
   have e6:=e5.own e6 ho.blk_le;refine j1 (λ(c:Bool) w7=>w7=w6∧c=decide (0<b∧j+1<D.length)) ?_ ?_
   ·refine ac (λh2=>?_) (λh2=>?_)
    ·refine ab om om (ab om om ⟨rfl,?_⟩);rw [Bool.eq_iff_iff];simp;omega
    ·refine⟨rfl,?_⟩;rw [Bool.eq_iff_iff];simp;omega
   rintro c w7 ⟨rfl,rfl⟩;have hdm:=Nat.div_add_mod v (2^b)
   have hval:2^b*vl W64 (P++[v/2^b+u%2^b*2^(64-b)])+D.getD 0 0%2^b=vl W64 (D.take (j+1))+W64^(j+1)*(u%2^b):=by
    rw [gG,hP,hgo,Nat.pow_succ];have h3:2^b*(W64^j*(v/2^b+u%2^b*2^(64-b)))=W64^j*(2^b*(v/2^b))+W64^j*(u%2^b)*(2^b*2^(64-b)):=by grind
    rw [Nat.mul_add,h3,hbb];have h4:W64^j*v=W64^j*(2^b*(v/2^b))+W64^j*(v%2^b):=by rw [←Nat.mul_add,hdm]
    grind
   refine j0 (λw8=>Ow w8 w2.w.heap.size o ((P++[v/2^b+u%2^b*2^(64-b)])++List.replicate (D.length-(j+1)) 0)∧Ext aa w2 w8) ?_ ?_
   ·refine ac (λh2=>?_) (λh2=>?_)
    ·have hg:((P++[v/2^b]++List.replicate (D.length-(j+1)) 0).getD j 0)=v/2^b:=by simp [←hP]
     refine ho6.drew.rd.ix (j:=j) rfl (by simp [hP]) ?_;rw [hg];refine ab om om (ab om om ?_);refine (ha.ext e6).drew.ix (j:=j+1+k) om (by rw [aA];omega) ?_;rw [hDg,hu0];refine ai (y:=64-b) om (by rw [w64];omega) ?_;refine oy (x:=u) (n:=64-b) rfl rfl om ?_;have hmod:u*2^(64-b)%W64=u%2^b*2^(64-b):=by rw [←hbb,Nat.mul_mod_mul_right]
     have hlt:v/2^b<2^(64-b):=Nat.div_lt_of_lt_mul (by rw [hbb];exact hd);have hu2:u%2^b*2^(64-b)<W64:=by rw [←hmod];exact Nat.mod_lt _ dcd
     have hsum:v/2^b+u%2^b*2^(64-b)<W64:=by
      have:u%2^b<2^b:=Nat.mod_lt _ hpb;have:=Nat.mul_le_mul_right (2^(64-b)) this;rw [hbb,Nat.succ_mul] at this;omega
     refine uj (k:=64-b) rfl rfl hq (Nat.mod_lt _ dcd) (by rw [hmod];exact Nat.dvd_mul_left _ _) hlt ?_;rw [hmod];refine ho6.drew.store (j:=j) rfl (by simp [hP]) hsum rfl λw8 ho8 e8=>?_
     refine⟨?_,e6.drew.own e8 ho6.blk_le⟩;have:(P++[v/2^b]++List.replicate (D.length-(j+1)) 0).set j (v/2^b+u%2^b*2^(64-b))=(P++[v/2^b+u%2^b*2^(64-b)])++List.replicate (D.length-(j+1)) 0:=by simp [←hP]
     rwa [this] at ho8
    ·have:u%2^b=0:=by
      rcases Nat.eq_zero_or_pos b with h|h
      ·subst h;exact Nat.mod_one _
      ·rw [hpast om];exact Nat.zero_mod _
     rw [this,Nat.zero_mul,Nat.add_zero];exact⟨ho6,e6⟩
   rintro w8 ⟨ho8,e8⟩;exact ab om om ⟨D.length-(j+1),om,j+1,_,om,rfl,om,by simp [hP],by rw [hu0];exact hval,ho8,e8⟩
  ·have:j=D.length:=om;subst this;rw [Nat.sub_self,List.replicate_zero,List.append_nil] at ho;refine⟨P,?_,ho,e5⟩;rw [aJ (Nat.le_refl _),jF (Nat.le_refl _),Nat.zero_mod,Nat.mul_zero,Nat.add_zero,hDv] at hv;rw [hkb,←Nat.div_div_eq_div_mul,←hv,Nat.mul_add_div hpb,Nat.div_eq_of_lt (Nat.mod_lt _ hpb),Nat.add_zero]
 ·rintro w5 ⟨P,hv,ho,e5⟩;refine trO ho λs' w7 e7 h7=>rt1 (c:=.slice) _ ((e.trans e5).trans e7) ?_
  rw [hv] at h7;exact (h7.less e.size).at
theorem j7{lo hi:Int}{l h:Nat}{K:Sl→Prop}(h1:lo=l)(h2:hi=h)(h3:l≤h)(h4:h≤s.c)(hK:K (s.cut l h 1)):slc s lo hi 1 K:=by
 subst h1 h2;exact⟨om,om,om,by simpa using hK⟩
theorem limb_Low(hs:Nt w s x)(hx:sz x≤549755813888):Ct Pg F.kr [s.v,.int .i64 n] w aa [.one .slice] λ(s':Sl) w'=>On w' w.w.heap.size s' (x%2^min n.toNat 1048576):=by
 refine Ct.kr ?_;unfold Sh.kr;refine c1 (limb_within dcd) ?_;rintro r w1 e1 rfl;refine tr (hs.here.ext e1) λs2 w2 e2 ha=>?_
 have e:=e1.trans e2;have la:=ha.len;rw [aA] at la;have hn:min n.toNat (1048576:Int).toNat≤1048576:=om;rw [show (1048576:Int).toNat=1048576 by rfl] at hn ⊢;generalize min n.toNat 1048576=N at*;refine jb (x:=N) (y:=64) rfl rfl om dcd (eP (x:=N) (y:=64) rfl rfl dcd ?_);refine ai (y:=N%64) rfl (by rw [w64];omega) ?_;obtain⟨k,hk⟩:∃k,k=N/64:=⟨_,rfl⟩;obtain⟨b,hb⟩:∃b,b=N%64:=⟨_,rfl⟩;have hkb:2^N=W64^k*2^b:=by rw [hk,hb];exact pN N
 rw [←hk,←hb];have hb64:b<64:=om;have hk1:k≤16384:=om;clear hk hb;have hpb:0<2^b:=Nat.two_pow_pos b;have hbb:2^b*2^(64-b)=W64:=by rw [←Nat.pow_add,kw];congr 1;omega
 have hcap:=ha.cap;rw [aA] at hcap;refine ac (λh0=>?_) (λh0=>?_)
 ·refine ha.copy e.size (by rw [aA];omega) λs3 w3 h3 e3 _=>rt1 (c:=.slice) _ (e.trans e3) ?_
  rw [Nat.mod_eq_of_lt]
  ·exact h3.at
  ·rw [hkb];exact Nat.lt_of_lt_of_le (lK (by omega:sz x≤k)) (Nat.le_mul_of_pos_right _ hpb)
 have h0:k<sz x:=om;refine j7 (l:=0) (h:=k) rfl rfl om om ?_;have hc:=ha.cut (Nat.zero_le k) (by rw [aA];omega);rw [List.drop_zero] at hc;refine hc.copy (B:=w2.w.heap.size) (Nat.le_refl _) (by simp;omega) λs3 w3 h3 e3 _=>?_
 refine j1 (λ(t:Sl) w4=>∃P,Ow w4 w2.w.heap.size t P∧vl W64 P=x%2^N∧Ext aa w2 w4) ?_ ?_
 ·have hrest:∀X,vl W64 ((dg W64 x).take k)+W64^k*(((dg W64 x).getD k 0)%2^b)=X→x%2^N=X:=λX hX=>by
   subst hX;have h1:=bQ (l8 W2 x) k;rw [aV W2] at h1;have h2:=bQ (l8 W2 x) (k+1);rw [aV W2,aj] at h2
   have h3:x/W64^k%W64=(dg W64 x).getD k 0:=by
    rw [←h1.1];have:=(bQ ((l8 W2 x).drop k) 1).2;rw [Nat.pow_one] at this;rw [←this,List.drop_eq_getElem_cons (by rw [aA];exact h0),List.take_succ_cons,List.take_zero,uL];have h9:k<(dg W64 x).length:=h0;simp [h9]
   rw [h1.2,←h3,hkb,Nat.mod_mul,Nat.mod_mod_of_dvd _ ⟨_,hbb.symm⟩]
  refine ac (λh1=>?_) (λh1=>?_)
  ·refine (ha.ext e3).ix rfl (by rw [aA];omega) ?_;have hlt:=ha.lt k;refine oy (x:=1) (n:=b) rfl rfl om ?_;have h2b:2^b<W64:=by rw [kw];exact Nat.pow_lt_pow_right dcd hb64
   rw [Nat.one_mul,Nat.mod_eq_of_lt h2b];refine ai (y:=2^b-1) om om ?_;refine mZ (x:=(dg W64 x).getD k 0) (k:=b) rfl rfl hlt om ?_;have hm:(dg W64 x).getD k 0%2^b<W64:=Nat.lt_of_le_of_lt (Nat.mod_le _ _) hlt;refine vk rfl hm λbb w4 h4 e4=>?_
   refine (h3.ext e4).cat h4.rd (Nat.le_trans e3.size e4.size) (by simp;omega) λs5 w5 h5 e5 _=>?_
   refine⟨_,h5,?_,(e3.trans e4).own e5 h3.blk_le⟩;rw [gG];refine (hrest _ ?_).symm;congr 3;have h9:k≤(dg W64 x).length:=Nat.le_of_lt h0;simp [h9]
  ·have:b=0:=om;subst this;refine⟨_,h3,?_,e3⟩;exact (hrest _ (by simp [Nat.mod_one])).symm
 ·rintro t w4 ⟨P,h4,hv,e4⟩;refine trO h4 λs' w7 e7 h7=>rt1 (c:=.slice) _ ((e.trans e4).trans e7) ?_
  rw [hv] at h7;exact (h7.less e.size).at
theorem limb_Split{k:Int}(hs:Nt w s x)(hx:sz x≤1099511627776):Ct Pg F.gf [s.v,.int .i64 k] w aa [.one .slice,.one .slice] λ(a b:Sl) w'=>On w' w.w.heap.size a (x%W64^min k.toNat 16384)∧On w' w.w.heap.size b (x/W64^min k.toNat 16384)∧(∀c,b.blk=some c→¬a.blk=some c):=by
 refine Ct.gf ?_;unfold Sh.gf;refine c1 (limb_within dcd) ?_;rintro r w1 e1 rfl;refine tr (hs.here.ext e1) λs2 w2 e2 ha=>?_
 have e:=e1.trans e2;have la:=ha.len;have hcap:=ha.cap;rw [aA] at la hcap;rw [show (16384:Int).toNat=16384 by rfl];generalize min k.toNat 16384=N at*;refine ac (λh0=>?_) (λh0=>?_)
 ·refine ha.copy e.size (by rw [aA];omega) λs3 w3 h3 e3 _=>rt2 (c:=.slice) (d:=.slice) s3 Sl.nil (e.trans e3) ?_
  have hlt:x<W64^N:=lK om;rw [Nat.mod_eq_of_lt hlt,Nat.div_eq_of_lt hlt];exact⟨h3.at,On.nil _ _,λc hc=>by simp [Sl.blk] at hc⟩
 ·refine j7 (l:=0) (h:=N) rfl rfl om om (j7 (l:=N) (h:=s2.n) rfl rfl om om ?_);have hlo:=ha.cut (Nat.zero_le N) (by rw [aA];omega);have hhi:=ha.cut (lo:=N) (hi:=s2.n) om (by rw [aA];omega);rw [List.drop_zero] at hlo;rw [List.take_of_length_le (by rw [aA];omega),acK] at hhi;refine c1 (limb_Norm hlo.drew.nt (Nat.le_trans (df hlo.sm) (by simp;omega))) ?_;intro s4 w4 e4 h4;have hhi:=hhi.drew.ext e4;have e:=e.drew.trans e4;refine hhi.copy (B:=w.here.w.heap.size) e.size ?_ λs5 w5 h5 e5 hb5=>rt2 (c:=.slice) (d:=.slice) _ _ (e.trans e5) ⟨?_,h5.at,λc hc ha=>?_⟩
  ·have:=aq (Nat.div_le_self x (W64^N));rw [aA];omega
  ·rw [(bQ (l8 W2 x) N).2,aV W2] at h4;exact ((h4.ext e5).less (e1.trans e2).size).at
  ·have:=hb5 c hc;have:=(Ow.from_ h4 c ha).2;omega
end
section
variable {k x:Nat} {w:TW}
def bl(x:Nat):Nat:=(dg 2 x).length
theorem fr(x:Nat):x<2^bl x:=oo (Nat.le_refl _) x
theorem qG(h:0<x):2^(bl x-1)≤x:=pT (Nat.le_refl _) h
theorem nO(h:0<x):0<bl x:=by
 have:=(not_congr (kB (b:=2) (n:=x) (Nat.le_refl _))).2 om;unfold bl;omega
theorem dX:bl 0=0:=(kB (b:=2) (Nat.le_refl _)).2 rfl
theorem abW(h1:2^k≤x)(h2:x<2^(k+1)):bl x=k+1:=by
 have h3:bl x≤k+1:=jD (Nat.le_refl _) h2;rcases Nat.lt_or_ge k (bl x) with h|h
 ·omega
 ·have:=Nat.lt_of_lt_of_le (fr x) (Nat.pow_le_pow_right (n:=2) dcd h);omega
theorem aY(h:x<2^k):bl x≤k:=jD (Nat.le_refl _) h
theorem nN(h:2^k≤x):bl x=bl (x/2^k)+k:=by
 have h0:0<x/2^k:=Nat.div_pos h (Nat.two_pow_pos k);have h1:=qG h0;have h2:=fr (x/2^k);have h3:=nO h0;rw [show bl (x/2^k)+k=(bl (x/2^k)-1+k)+1 by omega];refine abW ?_ ?_
 ·rw [Nat.pow_add];exact Nat.le_trans (Nat.mul_le_mul_right _ h1) (Nat.div_mul_le_self x (2^k))
 ·rw [show bl (x/2^k)-1+k+1=bl (x/2^k)+k by omega,Nat.pow_add];rw [Nat.div_lt_iff_lt_mul (Nat.two_pow_pos k)] at h2;exact h2
def abN(t:ByteArray):Bool:=Nat.beq t.size 256&&(List.range 256).all λi=>match t.data[i]? with
 | some v=>if i=0 then Nat.beq v.toNat 0 else Nat.ble 1 v.toNat&&Nat.ble (2^(v.toNat-1)) i&&Nat.blt i (2^v.toNat)
 | none=>false
theorem acZ{t:ByteArray}(ht:abN t=true){i:Nat}(hi:i<256):∃h:i<t.size,(t[i]'h).toNat=bl i:=by
 simp only [abN,Bool.and_eq_true,List.all_eq_true,List.mem_range] at ht;have h1:t.size=256:=Nat.eq_of_beq_eq_true ht.1;have h2:=ht.2 i hi;have hs:i<t.size:=om;refine⟨hs,?_⟩;have hs':i<t.data.size:=hs;rw [Array.getElem?_eq_getElem hs'] at h2;simp only at h2;show (t.data[i]'hs').toNat=_;split at h2
 ·subst i;rw [Nat.eq_of_beq_eq_true h2,dX]
 ·simp only [Bool.and_eq_true,Nat.ble_eq,Nat.blt_eq] at h2;obtain⟨⟨h3,h4⟩,h5⟩:=h2;rw [show (t.data[i]'hs').toNat=((t.data[i]'hs').toNat-1)+1 by omega] at h5 ⊢;exact (abW h4 h5).symm
theorem ag{α:Type}{x y:α}{K:α→Prop}(h:x=y)(hK:K y):bnd x K:=by subst h;exact hK
theorem adv{s:ByteArray}{i:Int}{j v:Nat}{K:Int→Prop}(hi:i=j)(h:∃h:j<s.size,(s[j]'h).toNat=v)(hK:K v):ixs s i K:=by
 subst hi;obtain⟨h1,h2⟩:=h;refine⟨⟨om,h1⟩,?_⟩;simp only [Int.toNat_natCast];rw [h2];exact hK
theorem bits_Len64(hx:x<W64):Ct Pg F.fI [.int .u64 x] w aa [.one (.int .i64)] λ(r:Int) _=>r=bl x:=by
 refine Ct.fI ?_;unfold Sh.fI;rw [kw] at hx;refine j2 (λ(x1 n1:Int) w'=>w'=w.here∧∃a m:Nat,x1=a∧n1=m∧a<2^32∧m≤32∧bl x=bl a+m) ?_ ?_
 ·refine ac (λh=>?_) (λh=>?_)
  ·exact jC (x:=x) (n:=32) rfl rfl dcd ⟨rfl,x/2^32,32,rfl,rfl,om,om,nN om⟩
  ·exact⟨rfl,x,0,rfl,rfl,om,om,rfl⟩
 rintro x1 n1 w' ⟨rfl,a,m,rfl,rfl,ha,hm,hb⟩;refine j2 (λ(x1 n1:Int) w'=>w'=w.here∧∃a m:Nat,x1=a∧n1=m∧a<2^16∧m≤48∧bl x=bl a+m) ?_ ?_
 ·refine ac (λh=>?_) (λh=>?_)
  ·exact jC (x:=a) (n:=16) rfl rfl dcd (ab om om ⟨rfl,a/2^16,m+16,rfl,rfl,om,om,by rw [hb,nN (k:=16) om];omega⟩)
  ·exact⟨rfl,a,m,rfl,rfl,om,om,hb⟩
 rintro x1 n1 w' ⟨rfl,a,m,rfl,rfl,ha,hm,hb⟩;refine j2 (λ(x1 n1:Int) w'=>w'=w.here∧∃a m:Nat,x1=a∧n1=m∧a<2^8∧m≤56∧bl x=bl a+m) ?_ ?_
 ·refine ac (λh=>?_) (λh=>?_)
  ·exact jC (x:=a) (n:=8) rfl rfl dcd (ab om om ⟨rfl,a/2^8,m+8,rfl,rfl,om,om,by rw [hb,nN (k:=8) om];omega⟩)
  ·exact⟨rfl,a,m,rfl,rfl,om,om,hb⟩
 rintro x1 n1 w' ⟨rfl,a,m,rfl,rfl,ha,hm,hb⟩;have hw:IntKind.u8.wrap (a:Int)=a:=by simp [IntKind.wrap,IntKind.signed,IntKind.bits];omega
 have:=aY ha;refine ag hw (adv rfl (acZ krf (show a<256 from ha)) (ab om om (ab om om ?_)));exact rt1 (c:=.int .i64) _ (Ext.refl _ _) om
theorem bits_LeadingZeros64(hx:x<W64):Ct Pg F.bv [.int .u64 x] w aa [.one (.int .i64)] λ(r:Int) _=>r=(64-bl x:Nat):=by
 refine Ct.bv ?_;unfold Sh.bv;refine c1 (bits_Len64 hx) ?_;rintro r w' e rfl;have:=aY (k:=64) hx;exact ab om om (rt1 (c:=.int .i64) _ e om)
end
section
variable {V:Nat} {w:TW}
section
variable {M v1 v0 u d q r:Nat}
theorem adq(hq:q*v1+r=u)(hQ:u*M+d<(v1*M+v0)*M)(hc:M≤q∨M*r+d<q*v0):(u*M+d)/(v1*M+v0)<q:=by
 have hV:0<v1*M+v0:=by
  rcases Nat.eq_zero_or_pos (v1*M+v0) with h|h
  ·rw [h,Nat.zero_mul] at hQ;omega
  ·exact h
 rcases hc with h|h
 ·exact Nat.lt_of_lt_of_le (Nat.div_lt_of_lt_mul hQ) h
 ·refine Nat.div_lt_of_lt_mul ?_;have e1:u*M=q*v1*M+M*r:=by rw [←hq];grind
  have e2:(v1*M+v0)*q=q*v1*M+q*v0:=by grind
  omega
theorem vB(hV:0<v1*M+v0)(hq:q*v1+r=u)(h:q*v0≤M*r+d):q≤(u*M+d)/(v1*M+v0):=by
 rw [Nat.le_div_iff_mul_le hV];have e1:u*M=q*v1*M+M*r:=by rw [←hq];grind
 have e2:q*(v1*M+v0)=q*v1*M+q*v0:=by grind
 omega
theorem abb(hV:0<v1*M+v0)(hv0:v0<M)(hq:q*v1+r=u)(hr:M≤r)(hqM:q≤M):q≤(u*M+d)/(v1*M+v0):=by
 refine vB hV hq ?_;have h1:q*v0≤M*v0:=Nat.mul_le_mul_right _ hqM;have h2:M*v0≤M*r:=Nat.mul_le_mul_left _ om;omega
theorem acv(hd:d<M)(hv1:0<v1):(u*M+d)/(v1*M+v0)≤u/v1:=by
 have hM:0<M:=om;rw [Nat.le_div_iff_mul_le hv1];have h1:=Nat.div_mul_le_self (u*M+d) (v1*M+v0);generalize (u*M+d)/(v1*M+v0)=Q at*;have h2:Q*(v1*M+v0)=Q*v1*M+Q*v0:=by grind
 have h3:Q*v1*M<(u+1)*M:=by rw [Nat.add_mul];omega
 have:=Nat.lt_of_mul_lt_mul_right h3;omega
theorem adp(hv0:v0<M)(hM:M≤2*v1)(hu:u<v1*M+v0):u/v1≤M+1:=by
 have h:u<v1*(M+2):=by rw [Nat.mul_add];omega
 have:=Nat.div_lt_of_lt_mul h;omega
end
theorem mS{x y:Int}{a b:Nat}{K:Int→Prop}(hx:x=a)(hy:y=b)(hb:b≤W64)(h:K ((a+(W64-b))%W64:Nat)):bnd (wu (x-y)) K:=by
 subst hx hy
 have:wu ((a:Int)-b)=((a+(W64-b))%W64:Nat):=by
  rw [←rG];simp only [wu,IntKind.wrap,IntKind.signed,IntKind.bits,w64];rw [w64] at hb;simp;omega
 unfold bnd;rw [this];exact h
theorem wU{X d QV R:Nat}(h:X+d=QV+R)(hR:R<W64):((X%W64+d)%W64+(W64-QV%W64))%W64=R:=by
 rw [w64] at*;omega
theorem adr{u L d1 d0 Q1 Q0 R1 R0:Nat}(h1:4294967296*d1+d0=L)(h2:V*Q1+R1=u*4294967296+d1)(h3:V*Q0+R0=R1*4294967296+d0):u*W64+L=R0+V*(Q1*4294967296+Q0):=by
 rw [Nat.mul_add,←Nat.mul_assoc];have e:W64=18446744073709551616:=rfl;generalize V*Q1=a at*;generalize V*Q0=b at*;rw [e];omega
theorem zM{v1 v0 u d:Nat}(hv1:V/4294967296=v1)(hv0:V%4294967296=v0)(hV:V<W64)(hV2:9223372036854775808≤V)(hu:u<V)(hd:d<4294967296){C:Int→Int→TW→Prop}{J:Int→TW→Prop}{q r:Nat}(hI:(u*4294967296+d)/V≤q∧q≤4294967297∧q*v1+r=u∧r<4294967296)(hC:∀q' r':Nat,q'<q→(u*4294967296+d)/V≤q'∧q'≤4294967297∧q'*v1+r'=u∧r'<4294967296→C q' r' w)(hJ:J ((u*4294967296+d)/V:Nat) w):
  Jn [.bool] (λJ3=>cond (decide ((q:Int)≥4294967296)) (J3 true w) (bnd (wu ((q:Int)*v0)) λa=>bnd (wu (4294967296*(r:Int))) λb=>bnd (wu (b+d)) λc=>J3 (decide (a>c)) w))
   (λ(x:Bool) w5=>cond x (bnd (wu ((q:Int)-1)) λa=>bnd (wu ((r:Int)+v1)) λb=>cond (decide (b≥4294967296)) (J a w5) (C a b w5)) (J q w5)):=by
 obtain⟨h1,h2,h3,h4⟩:=hI;have hVe:v1*4294967296+v0=V:=by have:=Nat.div_add_mod V 4294967296;omega
 have hv0':v0<4294967296:=om;have hv1':v1<4294967296:=by rw [w64] at hV;omega
 have hQ:u*4294967296+d<(v1*4294967296+v0)*4294967296:=by rw [hVe];omega
 have hcur:∀q',(u*4294967296+d)/V≤q'→q'≤(u*4294967296+d)/V→q'=(u*4294967296+d)/V:=λ_ a b=>om
 have hq0:q*v0≤4294967297*v0:=Nat.mul_le_mul_right _ h2;refine j1 (λ(x:Bool) w5=>w5=w∧x=decide (4294967296≤q∨4294967296*r+d<q*v0)) ?_ ?_
 ·refine ac (λh=>⟨rfl,?_⟩) (λh=>?_)
  ·rw [eq_comm,decide_eq_true_iff];left;omega
  ·have h:q<4294967296:=om;have hq1:q*v0≤4294967295*v0:=Nat.mul_le_mul_right _ om;refine ai (y:=q*v0) smp (by rw [w64];omega) (ai (y:=4294967296*r) smp (by rw [w64];omega) (ai (y:=4294967296*r+d) smp (by rw [w64];omega) ⟨rfl,?_⟩));rw [Bool.eq_iff_iff,decide_eq_true_iff,decide_eq_true_iff];omega
 rintro x w5 ⟨rfl,rfl⟩;refine ac (λhc=>?_) (λhc=>?_)
 ·have hdec:=adq h3 hQ hc;rw [hVe] at hdec
  have hs2:∀q' r',q'*v1+r'=u→4294967296≤r'→q'≤4294967296→q'≤(u*4294967296+d)/V:=λq' r' a b c=>by
   have:=abb (d:=d) (v0:=v0) (by rw [hVe];omega) hv0' a b c;rwa [hVe] at this
  generalize (u*4294967296+d)/V=QQ at*
  have hq':(q-1)*v1+(r+v1)=u:=by
   rw [←h3];have:q*v1=(q-1)*v1+v1:=by rw [←Nat.succ_mul];congr 1;omega
   omega
  refine ai (y:=q-1) om (by rw [w64];omega) (ai (y:=r+v1) om (by rw [w64];omega) ?_);refine ac (λhr=>?_) (λhr=>?_)
  ·have hs:=hs2 _ _ hq' om om;rw [hcur (q-1) om hs];exact hJ
  ·exact hC (q-1) (r+v1) om ⟨om,om,hq',om⟩
 ·have hs:=vB (M:=4294967296) (d:=d) (by rw [hVe];omega) h3 om;rw [hVe] at hs;rw [hcur q h1 hs];exact hJ
theorem bits_Div64{hi lo y:Nat}(hlo:lo<W64)(hy:y<W64)(hlt:hi<y):Ct Pg F.eU [.int .u64 hi,.int .u64 lo,.int .u64 y] w aa [.one (.int .u64),.one (.int .u64)] λ(q r:Int) _=>q=((hi*W64+lo)/y:Nat)∧r=((hi*W64+lo)%y:Nat):=by
 refine Ct.eU ?_;unfold Sh.eU;refine j0 (λw'=>w'=w.here) (ap (by simp;omega) rfl) ?_;rintro _ rfl;refine j0 (λw'=>w'=w.here) (ap (by simp;omega) rfl) ?_;rintro _ rfl;refine aG (λh=>?_) (λh=>?_)
 ·have:hi=0:=by simp at h;omega
  subst this;rw [Nat.zero_mul,Nat.zero_add];exact j6 (x:=lo) (y:=y) rfl rfl hlo om (eP (x:=lo) (y:=y) rfl rfl om (rt2 (c:=.int .u64) (d:=.int .u64) _ _ (Ext.refl _ _).drew ⟨rfl,rfl⟩))
 clear h;refine c1 (bits_LeadingZeros64 hy) ?_;rintro r w1 e rfl;have hb1:=qG (x:=y) om;have hb2:=fr y;have hb3:=nO (x:=y) om;have hb4:=aY (k:=64) hy;obtain⟨s,hs⟩:∃s,s=64-bl y:=⟨_,rfl⟩;rw [←hs];have hs64:s<64:=om;have hps:0<2^s:=Nat.two_pow_pos s;have hss:2^s*2^(64-s)=W64:=by rw [←Nat.pow_add,kw];congr 1;omega
 have hV:y*2^s<W64:=by
  rw [kw,show (64:Nat)=bl y+s by omega,Nat.pow_add];exact Nat.mul_lt_mul_of_pos_right hb2 hps
 have hV2:9223372036854775808≤y*2^s:=by
  rw [show (9223372036854775808:Nat)=2^63 by decide,show (63:Nat)=bl y-1+s by omega,Nat.pow_add];exact Nat.mul_le_mul_right _ hb1
 clear hb1 hb2 hb3 hb4 hs
 have hu:hi*2^s+lo/2^(64-s)<y*2^s:=by
  have h1:lo/2^(64-s)<2^s:=Nat.div_lt_of_lt_mul (by rw [Nat.mul_comm,hss];exact hlo);have h2:=Nat.mul_le_mul_right (2^s) hlt;rw [Nat.succ_mul] at h2;omega
 have hU:(hi*W64+lo)*2^s=(hi*2^s+lo/2^(64-s))*W64+lo*2^s%W64:=by
  have h1:=Nat.div_add_mod lo (2^(64-s));have h2:lo*2^s%W64=lo%2^(64-s)*2^s:=by rw [←hss,Nat.mul_comm (2^s),Nat.mul_mod_mul_right]
  rw [h2,←hss];grind
 have hUl:lo*2^s%W64<W64:=Nat.mod_lt _ dcd;have hq:(hi*W64+lo)/y=(hi*W64+lo)*2^s/(y*2^s):=(Nat.mul_div_mul_right _ _ hps).symm;have hr:(hi*W64+lo)%y=(hi*W64+lo)*2^s%(y*2^s)/2^s:=by rw [Nat.mul_mod_mul_right,Nat.mul_div_cancel _ hps]
 rw [hq,hr,hU];clear hq hr hU;have hn7:lo/2^(64-s)<2^s:=Nat.div_lt_of_lt_mul (by rw [Nat.mul_comm,hss];exact hlo);have hyW:hi*2^s<W64:=Nat.lt_of_le_of_lt (Nat.mul_le_mul_right _ (Nat.le_of_lt hlt)) hV;refine ai (y:=s) rfl (by rw [w64];omega) ?_;refine oy (x:=y) (n:=s) rfl rfl om ?_;rw [Nat.mod_eq_of_lt hV];refine jC (x:=y*2^s) (n:=32) rfl rfl dcd ?_;refine mZ (x:=y*2^s) (k:=32) rfl dcd hV dcd ?_;refine oy (x:=hi) (n:=s) rfl rfl om ?_;rw [Nat.mod_eq_of_lt hyW];refine ai (y:=64-s) om (by rw [w64];omega) ?_;refine jC (x:=lo) (n:=64-s) rfl rfl (by show _≤64;omega) ?_;refine abE (k:=s) rfl rfl hyW (Nat.lt_of_le_of_lt (Nat.div_le_self _ _) hlo) (Nat.dvd_mul_left _ _) hn7 ?_;refine oy (x:=lo) (n:=s) rfl rfl om ?_;generalize lo*2^s%W64=L at*;generalize hi*2^s+lo/2^(64-s)=u at*;generalize y*2^s=V at*;clear hn7 hyW;refine jC (x:=L) (n:=32) rfl rfl dcd ?_
 refine mZ (x:=L) (k:=32) rfl dcd hUl dcd ?_;have e32:(2:Nat)^32=4294967296:=dcd;rw [e32];have hLe:=Nat.div_add_mod L 4294967296;have hL1:L/4294967296<4294967296:=by rw [w64] at hUl;omega
 have hL0:L%4294967296<4294967296:=Nat.mod_lt _ dcd;generalize L/4294967296=d1 at*;generalize L%4294967296=d0 at*;obtain⟨v1,hv1⟩:∃v1,V/4294967296=v1:=⟨_,rfl⟩;obtain⟨v0,hv0⟩:∃v0,V%4294967296=v0:=⟨_,rfl⟩;rw [hv1,hv0];have hv1p:0<v1:=om;have hVe:v1*4294967296+v0=V:=by have:=Nat.div_add_mod V 4294967296;omega
 have init:∀u d:Nat,u<V→d<4294967296→(u*4294967296+d)/V≤u/v1∧u/v1≤4294967297∧u/v1*v1+u%v1=u∧u%v1<4294967296:=λu d h1 h2=>by
  have a:=acv (M:=4294967296) (v1:=v1) (v0:=v0) (u:=u) h2 hv1p;rw [hVe] at a;refine⟨a,adp (M:=4294967296) (v1:=v1) (v0:=v0) (u:=u) om om (by rw [hVe];exact h1),by rw [Nat.mul_comm];exact Nat.div_add_mod u v1,?_⟩;have:=Nat.mod_lt u hv1p;rw [w64] at hV;omega
 have hrem:∀u,u<V→((u+(W64-u/v1*v1%W64))%W64:Nat)=u%v1:=λu h=>by
  have h1:=Nat.div_add_mod u v1;have h2:u/v1*v1=v1*(u/v1):=Nat.mul_comm _ _;have h3:=Nat.mod_le u v1;generalize v1*(u/v1)=X at*;generalize u%v1=Y at*;rw [h2];rw [w64] at*;omega
 have hdig:∀u d,u<V→d<4294967296→(u*4294967296+d)/V<4294967296:=λu d h1 h2=>Nat.div_lt_of_lt_mul om
 have hu64:u<W64:=Nat.lt_trans hu hV;refine j6 (x:=u) (y:=v1) rfl rfl hu64 om ?_;refine gy (y:=u/v1*v1) smp ?_;refine mS (a:=u) (b:=u/v1*v1%W64) rfl rfl (Nat.le_of_lt (Nat.mod_lt _ dcd)) ?_;rw [hrem u hu];refine j1 (λ(q:Int) w6=>w6=w1∧q=((u*4294967296+d1)/V:Nat)) ?_ ?_
 ·refine lp2 (λm (q r:Int) w'=>w'=w1∧∃q' r':Nat,q=q'∧r=r'∧m=q'∧(u*4294967296+d1)/V≤q'∧q'≤4294967297∧q'*v1+r'=u∧r'<4294967296) (u/v1) ⟨rfl,u/v1,u%v1,rfl,rfl,rfl,init u d1 hu hL1⟩ ?_;rintro m q r w' ⟨rfl,q',r',rfl,rfl,rfl,hI⟩;exact zM hv1 hv0 hV hV2 hu hL1 hI (λq'' r'' hlt h=>⟨q'',hlt,rfl,q'',r'',rfl,rfl,rfl,h⟩) ⟨rfl,rfl⟩
 rintro q w6 ⟨rfl,rfl⟩;have hQ1:=hdig u d1 hu hL1;have hdm1:=Nat.div_add_mod (u*4294967296+d1) V;have hR1:=Nat.mod_lt (u*4294967296+d1) (show 0<V by omega);obtain⟨Q1,hq1⟩:∃Q,(u*4294967296+d1)/V=Q:=⟨_,rfl⟩;obtain⟨R1,hr1⟩:∃Q,(u*4294967296+d1)%V=Q:=⟨_,rfl⟩;rw [hq1] at hQ1 hdm1 ⊢;rw [hr1] at hR1 hdm1;refine gy (y:=u*4294967296) smp (gy (y:=u*4294967296%W64+d1) smp (gy (y:=V*Q1) (by simp [Int.mul_comm]) ?_));refine mS (a:=(u*4294967296%W64+d1)%W64) (b:=V*Q1%W64) rfl rfl (Nat.le_of_lt (Nat.mod_lt _ dcd)) ?_;rw [wU (R:=R1) hdm1.symm (Nat.lt_trans hR1 hV)];refine j6 (x:=R1) (y:=v1) rfl rfl (Nat.lt_trans hR1 hV) om ?_;refine gy (y:=R1/v1*v1) smp ?_;refine mS (a:=R1) (b:=R1/v1*v1%W64) rfl rfl (Nat.le_of_lt (Nat.mod_lt _ dcd)) ?_;rw [hrem R1 hR1];refine j1 (λ(q:Int) w'=>w'=w6∧q=((R1*4294967296+d0)/V:Nat)) ?_ ?_
 ·refine lp2 (λm (r q:Int) w'=>w'=w6∧∃q' r':Nat,q=q'∧r=r'∧m=q'∧(R1*4294967296+d0)/V≤q'∧q'≤4294967297∧q'*v1+r'=R1∧r'<4294967296) (R1/v1) ⟨rfl,R1/v1,R1%v1,rfl,rfl,rfl,init R1 d0 hR1 hL0⟩ ?_;rintro m r q w' ⟨rfl,q',r',rfl,rfl,rfl,hI⟩;exact zM (C:=λq r w=>_) hv1 hv0 hV hV2 hR1 hL0 hI (λq'' r'' hlt h=>⟨q'',hlt,rfl,q'',r'',rfl,rfl,rfl,h⟩) ⟨rfl,rfl⟩
 rintro q w' ⟨rfl,rfl⟩;have hQ0:=hdig R1 d0 hR1 hL0;have hdm0:=Nat.div_add_mod (R1*4294967296+d0) V;have hR0:=Nat.mod_lt (R1*4294967296+d0) (show 0<V by omega);obtain⟨Q0,hq0⟩:∃Q,(R1*4294967296+d0)/V=Q:=⟨_,rfl⟩;obtain⟨R0,hr0⟩:∃Q,(R1*4294967296+d0)%V=Q:=⟨_,rfl⟩;rw [hq0] at hQ0 hdm0 ⊢;rw [hr0] at hR0 hdm0;refine ai (y:=Q1*4294967296) smp (by rw [w64];omega) (ai (y:=Q1*4294967296+Q0) smp (by rw [w64];omega) ?_);refine gy (y:=R1*4294967296) smp (gy (y:=R1*4294967296%W64+d0) smp (gy (y:=V*Q0) (by simp [Int.mul_comm]) ?_));refine mS (a:=(R1*4294967296%W64+d0)%W64) (b:=V*Q0%W64) rfl rfl (Nat.le_of_lt (Nat.mod_lt _ dcd)) ?_;rw [wU (R:=R0) hdm0.symm (Nat.lt_trans hR0 hV)];refine jC (x:=R0) (n:=s) rfl rfl (by show _≤64;omega) ?_;have hall:u*W64+L=R0+V*(Q1*4294967296+Q0):=adr hLe hdm1 hdm0
 rw [hall,Nat.add_mul_div_left _ _ (by omega:0<V),Nat.add_mul_mod_self_left,Nat.div_eq_of_lt hR0,Nat.mod_eq_of_lt hR0,Nat.zero_add];exact rt2 (c:=.int .u64) (d:=.int .u64) _ _ e ⟨rfl,rfl⟩
end
section
variable {w w':TW} {s:Sl} {xs:List Nat} {i:Int} {j:Nat} {K:Sl→Prop}
theorem limb_DivWord{x y:Nat}(hs:Nt w s x)(hy:y<W64)(hx:sz x≤1099511627776):Ct Pg F.dx [s.v,.int .u64 y] w aa [.one .slice,.one (.int .u64),.one (.int .i64)] λ(s':Sl)(r e:Int) w'=>On w' w.w.heap.size s' (x/y)∧r=(if y=0 then 0 else x%y:Nat)∧e=(if y=0 then 2 else 0:Nat):=by
 refine Ct.dx ?_;unfold Sh.dx;refine aG (λh=>?_) (λh=>?_)
 ·have:y=0:=by simp at h;omega
  subst this;refine rt3 (c:=.slice) (d:=.int .u64) (e:=.int .i64) Sl.nil 0 2 (Ext.refl _ _) ⟨?_,rfl,rfl⟩;rw [Nat.div_zero];exact On.nil _ _
 have hy0:y≠0:=by intro h0;subst h0;simp at h
 clear h;refine tr hs.here λs2 w2 e ha=>?_
 have la:=ha.len;rw [aA] at la;refine bW (N:=sz x) om om λo w4 ho hon e4 hbk=>?_
 refine ab om om ?_;refine j1 (λ(r:Int) w5=>∃(Q:List Nat) (d:Nat),r=d∧d<y∧y*vl W64 Q+d=x∧Ow w5 w2.w.heap.size o Q∧Ext aa w2 w5) ?_ ?_
 ·refine lp2 (λm (r i:Int) w5=>∃(j d:Nat) (Q:List Nat),r=d∧i=j-1∧m=j∧j≤sz x∧d<y∧Q.length=sz x-j∧y*vl W64 Q+d=vl W64 ((dg W64 x).drop j)∧Ow w5 w2.w.heap.size o (List.replicate j 0++Q)∧Ext aa w2 w5) (sz x) ⟨sz x,0,[],rfl,om,rfl,om,om,smp,?_,by simpa using ho,e4⟩ ?_
  ·rw [List.drop_of_length_le (by rw [aA];exact Nat.le_refl _)];simp [gw]
  rintro m r i w5 ⟨j,d,Q,rfl,rfl,rfl,hj,hd,hQ,hv,ho,e5⟩;refine ac (λh0=>?_) (λh0=>?_)
  ·obtain⟨j,rfl⟩:∃j,m=j+1:=⟨m-1,om⟩;have hj1:j<(dg W64 x).length:=by rw [aA];omega
   refine (ha.ext e5).ix (j:=j) om hj1 ?_;have hvl:=ha.lt j;refine c2 (bits_Div64 hvl hy hd) ?_;rintro q r w6 e6 ⟨rfl,rfl⟩;have e5:=e5.trans e6;have ho:=ho.ext e6
   have hq:(d*W64+(dg W64 x).getD j 0)/y<W64:=by
    refine Nat.div_lt_of_lt_mul ?_;have:=Nat.mul_le_mul_right W64 hd;rw [Nat.succ_mul] at this;exact Nat.lt_of_lt_of_le (Nat.add_lt_add_left hvl _) this
   refine ho.store (j:=j) om (by simp;omega) hq rfl λw7 ho7 e7=>?_
   have hset:(List.replicate (j+1) 0++Q).set j ((d*W64+(dg W64 x).getD j 0)/y)=List.replicate j 0++(d*W64+(dg W64 x).getD j 0)/y::Q:=by
    have h1:List.replicate (j+1) 0++Q=List.replicate j 0++0::Q:=by rw [List.replicate_succ'];simp
    rw [h1];simp
   rw [hset] at ho7;refine ab om om ⟨j,om,j,_,_,rfl,om,rfl,om,Nat.mod_lt _ om,by simp [hQ];omega,?_,ho7,e5.own e7 ho.blk_le⟩;have hdm:=Nat.div_add_mod (d*W64+(dg W64 x).getD j 0) y;rw [List.drop_eq_getElem_cons hj1,de,de,←hv,show (dg W64 x)[j]=(dg W64 x).getD j 0 by simp [hj1]];generalize (d*W64+(dg W64 x).getD j 0)/y=q at*;generalize (d*W64+(dg W64 x).getD j 0)%y=r at*;grind
  ·have:m=0:=om;subst this;rw [List.drop_zero,aV W2] at hv;exact⟨Q,d,rfl,hd,hv,by simpa using ho,e5⟩
 ·rintro r w5 ⟨Q,d,rfl,hd,hv,ho,e5⟩;refine trO ho λs' w7 e7 h7=>rt3 (c:=.slice) (d:=.int .u64) (e:=.int .i64) _ _ _ ((e.trans e5).trans e7) ⟨?_,?_,?_⟩
  ·have:x/y=vl W64 Q:=by rw [←hv,Nat.mul_add_div om,Nat.div_eq_of_lt hd,Nat.add_zero]
   rw [this];exact (h7.less e.size).at
  ·rw [if_neg hy0,←hv,Nat.mul_add_mod,Nat.mod_eq_of_lt hd]
  ·rw [if_neg hy0];rfl
def Rs(w:TW)(s:Sl)(xs:List Nat):Prop:=∃ss:List Sl,Rdv w 1 s (ss.map Sl.v)∧ss.length=xs.length∧∀i t,ss[i]?=some t→Nt w t (xs.getD i 0)
theorem Rs.len(h:Rs w s xs):s.n=xs.length:=by
 obtain⟨ss,h1,h2,_⟩:=h;have:=h1.1;simp at this;omega
theorem Rs.here(h:Rs w s xs):Rs w.here s xs:=h.imp λ_ h=>⟨h.1,h.2.1,λi t ht=>(h.2.2 i t ht).here⟩
theorem Rs.ext(h:Rs w s xs)(hx:Ext aa w w'):Rs w' s xs:=h.imp λ_ h=>⟨h.1.ext hx λ_ _ h=>h,h.2.1,λi t ht=>(h.2.2 i t ht).ext hx⟩
theorem Rs.idx(h:Rs w s xs)(hi:i=j)(hj:j<xs.length)(hK:∀t,Nt w t (xs.getD j 0)→K t):ixa s i 1 (λa=>ldc .slice w a K):=by
 subst hi;have hl:=h.len;obtain⟨ss,⟨_,_,_,h4⟩,h5,h6⟩:=h;have hjs:j<ss.length:=om;obtain⟨b,o,hp,_,hc⟩:=h4 (λe=>by have:=congrArg List.length e;simp at this;subst this;simp at hjs);refine⟨⟨b,o,none⟩,hp,om,om,ss[j],?_,hK _ (h6 j _ (by simp [hjs]))⟩;rw [Int.toNat_natCast,Nat.mul_one,Addr.add_mk];exact hc j _ (by simp [hjs];rfl)
theorem Rs.idxE(h:Rs w s xs)(hx:Ext aa w w')(hi:i=j)(hj:j<xs.length)(hK:∀t,Nt w t (xs.getD j 0)→K t):ixa s i 1 (λa=>ldc .slice w' a K):=by
 subst hi;have hl:=h.len;obtain⟨ss,h0,h5,h6⟩:=h;have h4:=(h0.ext hx λ_ _ h=>h).2.2.2;have hjs:j<ss.length:=om;obtain⟨b,o,hp,_,hc⟩:=h4 (λe=>by have:=congrArg List.length e;simp at this;subst this;simp at hjs);refine⟨⟨b,o,none⟩,hp,om,om,ss[j],?_,hK _ (h6 j _ (by simp [hjs]))⟩;rw [Int.toNat_natCast,Nat.mul_one,Addr.add_mk];exact hc j _ (by simp [hjs];rfl)
theorem mD{a b:Nat}(h:a*b≤9223372036854775807):wi ((a:Int)*(b:Int))=(a*b:Nat):=by
 rw [←Int.natCast_mul];generalize a*b=c at*;exact ar om om
theorem yb(r i:Nat):(W64^r)^i=W64^(r*i):=(Nat.pow_mul _ _ _).symm
theorem rK{r n:Nat}{xs:List Nat}(h:∀t,t<xs.length→xs.getD t 0*W64^(r*t)<W64^n):∀i,i≤xs.length→vl (W64^r) (xs.take i)≤i*W64^n
 | 0,_=>by simp [gw]
 | i+1,hi=>by
  have:=rK h i om;rw [aj,yb,Nat.succ_mul,Nat.mul_comm (W64^_)];have:=h i hi;omega
theorem limb_Join{k:Int}(hs:Rs w s xs)(hn:xs.length≤1048576)(hx:∀t,sz (xs.getD t 0)≤549755813888):Ct Pg F.cq [.int .i64 k,s.v] w aa [.one .slice] λ(s':Sl) w'=>On w' w.w.heap.size s' (vl (W64^min k.toNat 16384) xs):=by
 refine Ct.cq ?_;unfold Sh.cq;refine c1 (limb_within dcd) ?_;rintro r w1 e1 rfl;have hs:=hs.here.ext e1;have hl:=hs.len;have hr:min k.toNat (16384:Int).toNat≤16384:=om;rw [show (16384:Int).toNat=16384 by rfl] at hr ⊢;generalize min k.toNat 16384=r at*;have hri:∀i,i<xs.length→r*i≤16384*1048576:=λi hi=>Nat.mul_le_mul hr om
 refine j1 (λ(n:Int) w2=>∃n0:Nat,n=n0∧n0≤1099511627770∧(∀t,t<xs.length→0<xs.getD t 0→r*t+sz (xs.getD t 0)≤n0)∧Ext aa w1 w2) ?_ ?_
 ·refine lp2 (λm (n i:Int) w2=>∃n0 j:Nat,n=n0∧i=j∧m=xs.length-j∧j≤xs.length∧n0≤1099511627770∧(∀t,t<j→0<xs.getD t 0→r*t+sz (xs.getD t 0)≤n0)∧Ext aa w1 w2) xs.length ⟨0,0,rfl,rfl,rfl,om,om,λt h=>by omega,Ext.refl _ _⟩ ?_;rintro m n i w2 ⟨n0,j,rfl,rfl,rfl,hj,hn0,hmax,e2⟩;refine ac (λh0=>?_) (λh0=>?_)
  ·have hj1:j<xs.length:=om;refine (hs.ext e2).idx rfl hj1 λt ht=>?_
   obtain⟨l,hl1,hl2⟩:=ht;refine c1 (api_Nat_Len hl1) ?_;rintro r1 w3 e3 rfl;rw [hl2];have hxj:=hx j;have hrj:=hri j hj1;refine j1 (λ(n:Int) w4=>w4=w3∧∃n1:Nat,n=n1∧n1≤1099511627770∧n0≤n1∧(0<xs.getD j 0→r*j+sz (xs.getD j 0)≤n1)) ?_ ?_
   ·refine ac (λh1=>?_) (λh1=>?_)
    ·refine ag (y:=((r*j:Nat):Int)) (mD om) ?_;refine ab om om (fV ⟨rfl,if n0<r*j+sz (xs.getD j 0) then r*j+sz (xs.getD j 0) else n0,?_,?_,?_,?_⟩)
     ·split<;>split<;>omega
     ·split<;>omega
     ·split<;>omega
     ·intro;split<;>omega
    ·refine⟨rfl,n0,rfl,hn0,Nat.le_refl _,λh2=>?_⟩;have:=(not_congr (kz (x:=xs.getD j 0))).2 om;omega
   rintro n w4 ⟨rfl,n1,rfl,h1,h2,h3⟩;refine ab om om ⟨xs.length-(j+1),om,n1,j+1,rfl,om,rfl,hj1,h1,λt ht hpos=>?_,e2.trans e3⟩;rcases Nat.lt_or_ge t j with h|h
   ·exact Nat.le_trans (hmax t h hpos) h2
   ·have:t=j:=om;rw [this] at hpos ⊢;exact h3 hpos
  ·have:j=xs.length:=om;subst this;exact⟨n0,rfl,hn0,hmax,e2⟩
 rintro n w2 ⟨n0,rfl,hn0,hmax,e2⟩;have hs:=hs.ext e2;have e:=e1.trans e2;refine ab om om (bW (N:=n0+2) om om λo w3 ho hon e3 hbk=>?_)
 have hterm:∀t,t<xs.length→xs.getD t 0*W64^(r*t)<W64^n0:=λt ht=>by
  rcases Nat.eq_zero_or_pos (xs.getD t 0) with h|h
  ·rw [h,Nat.zero_mul];exact Nat.pow_pos dcd
  ·refine Nat.lt_of_lt_of_le (Nat.mul_lt_mul_of_pos_right (gN _) (Nat.pow_pos dcd)) ?_;rw [←Nat.pow_add];exact Nat.pow_le_pow_right dcd (by have:=hmax t ht h;omega)
 have htot:∀i,i≤xs.length→vl (W64^r) (xs.take i)<W64^(n0+1):=λi hi=>by
  refine Nat.lt_of_le_of_lt (rK hterm i hi) ?_;rw [Nat.pow_succ,Nat.mul_comm];exact Nat.mul_lt_mul_of_pos_left (by rw [w64];omega) (Nat.pow_pos dcd)
 refine j0 (λw5=>∃P:List Nat,vl W64 P=vl (W64^r) xs∧Ow w5 w2.w.heap.size o P∧Ext aa w2 w5) ?_ ?_
 ·refine lp1 (λm (i:Int) w5=>∃(j:Nat) (P:List Nat),i=j∧m=xs.length-j∧j≤xs.length∧P.length=n0+2∧vl W64 P=vl (W64^r) (xs.take j)∧Ow w5 w2.w.heap.size o P∧Ext aa w2 w5) xs.length ⟨0,_,rfl,om,om,smp,by rw [jP];simp [gw],ho,e3⟩ ?_;rintro m i w5 ⟨j,P,rfl,rfl,hj,hP,hv,ho,e5⟩;refine ac (λh0=>?_) (λh0=>?_)
  ·have hj1:j<xs.length:=om;have hrj:=hri j hj1;have hxj:=hx j;refine hs.idxE e5 rfl hj1 λt ht=>?_
   obtain⟨tl,ht,htl⟩:=ht;refine c1 (limb_trim (ht.ext e5)) ?_;rintro t' w6 e6 rfl;have ht:=ht.trim;rw [htl] at ht ⊢;generalize ht':t.cut 0 (sz (xs.getD j 0)) 1=t' at*;have e5:=e5.trans e6;have ho:=ho.ext e6;have lt':=ht.len;rw [aA] at lt';clear e6;have hstep:=aj (W64^r) xs j;rw [yb] at hstep;have htj:=htot (j+1) hj1;have hmaxj:=hmax j hj1;refine j0 (λw7=>∃P:List Nat,P.length=n0+2∧vl W64 P=vl (W64^r) (xs.take (j+1))∧Ow w7 w2.w.heap.size o P∧Ext aa w2 w7) ?_ ?_
   ·refine lp2 (λm (c i:Int) w7=>∃(p d:Nat) (P:List Nat),c=d∧i=p∧m=n0+2-p∧d≤1∧P.length=n0+2∧vl W64 P+W64^(r*j+p)*d=vl (W64^r) (xs.take j)+vl W64 ((dg W64 (xs.getD j 0)).take p)*W64^(r*j)∧Ow w7 w2.w.heap.size o P∧Ext aa w2 w7) (n0+2) ⟨0,0,P,rfl,rfl,rfl,om,hP,by simp [gw,hv],ho,e5⟩ ?_;rintro m c i w7 ⟨p,d,P,rfl,rfl,rfl,hd,hP,hv,ho,e5⟩;refine j1 (λ(b:Bool) w8=>w8=w7∧b=decide (p<sz (xs.getD j 0)∨0<d)) ?_ ?_
    ·refine ac (λh1=>⟨rfl,?_⟩) (λh1=>⟨rfl,?_⟩)
     ·rw [eq_comm,decide_eq_true_iff];left;omega
     ·rw [Bool.eq_iff_iff,decide_eq_true_iff,decide_eq_true_iff];omega
    rintro b w8 ⟨rfl,rfl⟩;refine ac (λh1=>?_) (λh1=>?_)
    ·have hp:r*j+p<n0+1:=by
      rcases Nat.lt_or_ge p (sz (xs.getD j 0)) with h|h
      ·have:=hmaxj (by have:=(not_congr (kz (x:=xs.getD j 0))).1 om;omega);omega
      ·have hd1:d=1:=om;subst hd1;rw [aJ (l:=dg W64 (xs.getD j 0)) (by rw [aA];exact h),aV W2,Nat.mul_comm (xs.getD j 0),←hstep] at hv;refine (Nat.pow_lt_pow_iff_right (a:=W64) dcd).1 ?_;omega
     refine (ht.ext e5).at0 rfl ?_;have hy:=ht.lt p;have hgo:=aj W64 (dg W64 (xs.getD j 0)) p;generalize (dg W64 (xs.getD j 0)).getD p 0=y at*;have hrjw:wi ((r:Int)*(j:Int))=(r*j:Nat):=mD om;refine ag hrjw (ab om om (ag hrjw (ab om om ?_)));have hpP:r*j+p<P.length:=om;have hV1:=ho.rd.lt (r*j+p);refine ho.rd.ix (j:=r*j+p) om hpP ?_;have hset:=lu (b:=W64) hpP;rw [show P[r*j+p]=P.getD (r*j+p) 0 by simp [hpP]] at hset;generalize P.getD (r*j+p) 0=V at*;refine⟨V,y,d,rfl,rfl,rfl,hd,?_⟩;refine ho.store (j:=r*j+p) om hpP (Nat.mod_lt _ dcd) rfl λw9 ho9 e9=>?_
     refine ab om om ⟨n0+2-(p+1),om,p+1,_,_,rfl,om,rfl,om,by simp [hP],?_,ho9,e5.own e9 ho.blk_le⟩
     ·have:=hset ((V+y+d)%18446744073709551616);have hdm:=Nat.mod_add_div (V+y+d) 18446744073709551616;generalize (V+y+d)%18446744073709551616=s1 at*;generalize (V+y+d)/18446744073709551616=c1 at*;rw [hgo,←Nat.add_assoc,Nat.pow_succ];have e1:W64^(r*j+p)=W64^(r*j)*W64^p:=Nat.pow_add _ _ _;have e2:W64^(r*j+p)*s1+W64^(r*j+p)*W64*c1=W64^(r*j+p)*(V+y+d):=by rw [←hdm];grind
      grind
    ·have hd0:d=0:=om;subst hd0;refine⟨P,hP,?_,ho,e5⟩;rw [aJ (l:=dg W64 (xs.getD j 0)) (by rw [aA];omega),aV W2,Nat.mul_comm (xs.getD j 0),←hstep] at hv;simpa using hv
   ·rintro w7 ⟨P,hP,hv,ho,e7⟩;exact ab om om ⟨xs.length-(j+1),om,j+1,P,om,rfl,hj1,hP,hv,ho,e7⟩
  ·have:j=xs.length:=om;subst this;rw [List.take_of_length_le (Nat.le_refl _)] at hv;exact⟨P,hv,ho,e5⟩
 ·rintro w5 ⟨P,hv,ho,e5⟩;refine trO ho λs' w7 e7 h7=>rt1 (c:=.slice) _ ((e.trans e5).trans e7) ?_
  rw [hv] at h7;exact (h7.less e.size).at
end
section
variable {w:TW} {l xs:List Nat} {K:Nat→TW→Prop} {n:Nat} {s:Sl}
theorem qw{e:TypeId}{ss:List Sl}(k:Nat)(hk:ss.length=k)(hl:ss.length=xs.length)(hn:k≤1099511627776)(h:∀i t,ss[i]?=some t→Nt w t (xs.getD i 0))(hK:∀b w',Rs w' ⟨some ⟨b,0,none⟩,k,k⟩ xs→Ext aa w w'→K b w'):nwb w (ss.map Sl.v) e K:=by
 subst hk;intro b w' hw;refine hK b w' ⟨ss,⟨smp,Nat.le_refl _,by simp only [maxLen];omega,λ_=>⟨b,0,rfl,λhV=>?_,λj v hj=>?_⟩⟩,hl,λi t ht=>(h i t ht).ext (hw.ext _)⟩ (hw.ext _)
 ·rw [hw.V] at hV;have:=w.lt _ hV;have:=hw.at_;omega
 ·rw [cell_of_row w'.w b (0+j) _ e (0,0) hw.heap];simpa using hj
theorem acq(k:Nat)(hk:l.length=k)(hs:Sm W64 l)(hn:k≤1099511627776)(hK:∀b w',Ow w' w.w.heap.size ⟨some ⟨b,0,none⟩,k,k⟩ l→Ext aa w w'→K b w'):nwb w (l.map U) T.an K:=by
 subst hk;intro b w' hw;refine hK b w' ⟨⟨⟨smp,.inr ⟨b,l.length,(l.map U).toArray,rfl,by have:=hw.at_;omega,hw.heap,Nat.le_refl _,by simp only [maxLen];omega,smp,?_⟩⟩,λc hc hV=>?_⟩,hs⟩ (hw.ext _)
 ·rw [List.take_of_length_le smp]
 ·simp [Sl.blk] at hc;rw [hw.V] at hV;have:=w.lt _ hV;have:=hw.at_;omega
theorem adk{l c:Int}{m:Nat}{K:Sl→TW→Prop}(hl:l=n)(hc:c=m)(hnm:n≤m)(hm:m≤17592186044416)(h:∀f w',Ow w' w.w.heap.size f (List.replicate m 0)→f.n=m→f.c=m→Ext aa w w'→f.blk=some w.w.heap.size→K (f.cut 0 n 1) w'):mks w l c T.an 8 [.int .u64 0] K:=by
 subst hl hc;obtain⟨_,_,h3,h4,h5⟩:=bW (w:=w) (K:=λf w'=>Ow w' w.w.heap.size f (List.replicate m 0)∧f.n=m∧Ext aa w w'∧f.blk=some w.w.heap.size) rfl hm λs w' a b c d=>⟨a,b,c,d⟩
 refine⟨om,om,h3,h4,λb w' hw=>?_⟩;obtain⟨a1,a2,a3,a4⟩:=h5 b w' hw;have:=h _ w' a1 a2 smp a3 a4;simpa [Sl.cut,Addr.add_mk] using this
theorem limb_Sum(hs:Rs w s xs)(hn:xs.length≤1048576)(hx:∀t,sz (xs.getD t 0)≤549755813888):Ct Pg F.jW [s.v] w aa [.one .slice] λ(s':Sl) w'=>On w' w.w.heap.size s' xs.sum:=by
 refine Ct.jW ?_;unfold Sh.jW;refine c1 (limb_Join hs.here hn hx) ?_;intro s' w' e h
 have e1:∀l:List Nat,vl 1 l=l.sum:=λl=>by
  induction l with
  | nil=>rfl
  | cons x l ih=>simp [de,ih]
 have h:=h.at (k:=w.B);rw [show min (0:Int).toNat 16384=0 by rfl,Nat.pow_zero,e1] at h;exact rt1 (c:=.slice) _ e h
theorem Rd.take(h:Rd w s l)(k:Nat):Rd w (s.cut 0 (min k s.n) 1) (l.take k):=by
 have hl:=h.len;have:=h.cut (Nat.zero_le (min k s.n)) om;rw [List.drop_zero] at this;rwa [show l.take k=l.take (min k s.n) by rw [hl,←List.take_take,List.take_of_length_le (Nat.le_refl l.length)]]
theorem abd(h:Rd w s l):Ct Pg F.em [s.v,.int .i64 n] w aa [.one .slice] λ(s':Sl) _=>s'=s.cut 0 (min n s.n) 1:=by
 refine Ct.em ?_;unfold Sh.em;have hc:=h.cap;have hl:=h.len;refine fV (j7 (l:=0) (h:=min n s.n) rfl ?_ (Nat.zero_le _) om ?_)
 ·split<;>omega
 ·exact rt1 (c:=.slice) _ (Ext.refl _ _) rfl
theorem ua{t:Sl}(hs:Rd w s l)(ht:Rd w t l):Ct Pg F.dG [s.v,t.v] w aa [.one .bool] λ(r:Bool) _=>r=true:=by
 refine Ct.dG ?_;unfold Sh.dG;have h1:=hs.len;have h2:=ht.len;have hc:=hs.le;refine ap (by simp;omega) ?_;refine j0 (λw'=>Ext aa w.here w') ?_ λw' e=>rt1 (c:=.bool) _ e rfl
 refine lp1 (λm (i:Int) w'=>∃j:Nat,i=j∧m=l.length-j∧j≤l.length∧Ext aa w.here w') l.length ⟨0,rfl,om,om,Ext.refl _ _⟩ ?_;rintro m i w' ⟨j,rfl,rfl,hj,e⟩;refine ac (λh=>?_) (λ_=>e);refine (hs.here.ext e).drew.ix rfl om ((ht.here.ext e).drew.ix rfl om (ap smp ?_));exact ab om om ⟨l.length-(j+1),om,j+1,om,rfl,om,e.drew⟩
end
end Go.Proofs.YtpbimnlggalnfaaGreatDoor.Zg
