/- A part of the proofs of this seat's laws: words, lemmas or contracts of its functions. -/
import Derived.Test.YtjhfalgmgagdhaaGreatDoorGC
import Derived.Test.YtjhfalgmgagdhaaGreatDoorGP
import Derived.Test.YtjhfalgmgagdhaaGreatDoorGP1
import Derived.Test.YtjhfalgmgagdhaaGreatDoorGP4
set_option linter.unusedVariables false
set_option linter.unusedSimpArgs false
set_option linter.unnecessarySimpa false
section
namespace Go.Proofs.YtjhfalgmgagdhaaGreatDoor.Zg
theorem api_Nat_Len {w:TW} {s:Sl} {l:List Nat} (h:Rd w s l):Ct Pg F.api_Nat_Len [s.v] w none_ [.one (.int .i64)] fun (n:Int) _=>n=(sz (vl W64 l):Nat):=by
 refine Ct.api_Nat_Len ?_
 unfold Sh.api_Nat_Len
 have h:=h.here
 have hl:=h.len
 have hc:=h.le
 refine jn (fun (k:Int) w'=>Ext none_ w.here w'∧k=(sz (vl W64 l):Nat)) ?_ ?_
 ·refine lp1 (fun m (k:Int) w'=>∃j:Nat,k=j∧m=j∧j≤l.length∧vl W64 (l.drop j)=0∧Ext none_ w.here w') l.length ⟨l.length,by rw [hl],rfl,Nat.le_refl _,by simp [vl],Ext.refl _ _⟩ ?_
  rintro m k w' ⟨j,rfl,rfl,hj,hz,hx⟩
  refine jn (fun (b:Bool) w''=>w''=w'∧b=decide (∃h:0<m,l[m-1]=0)) ?_ ?_
  ·refine cnd_d (fun h0=>?_) (fun h0=>?_)
   ·refine bnd_wi (by omega) (by omega) ((h.ext hx).idx (j:=m-1) (by omega) (by omega) ⟨rfl,?_⟩)
    rw [Bool.eq_iff_iff]
    simp
    exact ⟨fun h=>⟨by omega,h⟩,fun ⟨_,h⟩=>h⟩
   ·exact ⟨rfl,by simp;omega⟩
  ·rintro b w'' ⟨rfl,rfl⟩
   refine cnd_d (fun h0=>?_) (fun h0=>?_)
   ·obtain ⟨h1,h2⟩:=h0
    refine bnd_wi (by omega) (by omega) ⟨m-1,by omega,m-1,by omega,rfl,by omega,?_,hx⟩
    have:=vl_split W64 (l.drop (m-1)) 1 (by simp;omega)
    rw [List.drop_drop,show m-1+1=m by omega,hz] at this
    rw [this,List.drop_eq_getElem_cons (by omega:m-1<l.length),List.take_succ_cons]
    simp [vl,h2]
   ·refine ⟨hx,?_⟩
    rw [sz,dg_len_of W2 h.sm hj hz (fun h1 h2=>h0 ⟨h1,h2⟩)]
    simp [hj]
 ·rintro k w' ⟨hx,rfl⟩
  exact rt1 (c:=.int .i64) _ hx rfl
theorem limb_trim {w:TW} {s:Sl} {l:List Nat} (h:Rd w s l):Ct Pg F.limb_trim [s.v] w none_ [.one .slice] fun (s':Sl) _=>s'=s.cut 0 (sz (vl W64 l)) 1:=by
 refine Ct.limb_trim ?_
 unfold Sh.limb_trim
 refine c1 (api_Nat_Len h.here) ?_
 rintro r w1 hx rfl
 have h1:=sz_vl h.sm
 have h2:=h.cap
 refine ⟨by omega,by omega,by omega,?_⟩
 exact rt1 (c:=.slice) _ hx (by simp)
theorem tr {w:TW} {s:Sl} {x:Nat} {K:Sl→TW→Prop} (h:Nt w s x) (hK:∀s' w',Ext none_ w w'→Rd w' s' (dg W64 x)→K s' w'):cl Pg F.limb_trim [s.v] w [.one .slice] K:=by
 obtain ⟨l,h,rfl⟩:=h
 refine c1 (limb_trim h) ?_
 rintro s' w' hx rfl
 exact hK _ _ hx (h.trim.ext hx)
theorem trO {w:TW} {B:Nat} {s:Sl} {l:List Nat} {K:Sl→TW→Prop} (h:Ow w B s l) (hK:∀s' w',Ext none_ w w'→On w' B s' (vl W64 l)→K s' w'):cl Pg F.limb_trim [s.v] w [.one .slice] K:=by
 refine c1 (limb_trim h.rd) ?_
 rintro s' w' hx rfl
 exact hK _ _ hx (h.trim.ext hx)
theorem limb_within {w:TW} {n m:Int} (hm:0≤m):Ct Pg F.limb_within [.int .i64 n,.int .i64 m] w none_ [.one (.int .i64)] fun (r:Int) _=>r=(min n.toNat m.toNat:Nat):=by
 refine Ct.limb_within ?_
 unfold Sh.limb_within
 refine bnd_i (bnd_i (rt1 (c:=.int .i64) _ (Ext.refl _ _) ?_))
 split<;>split<;>omega
theorem limb_Norm {w:TW} {s:Sl} {x:Nat} (h:Nt w s x) (hn:sz x≤1099511627776):Ct Pg F.limb_Norm [s.v] w none_ [.one .slice] fun (s':Sl) w'=>On w' w.w.heap.size s' x:=by
 refine Ct.limb_Norm ?_
 unfold Sh.limb_Norm
 refine tr h.here fun s1 w1 hx h1=>h1.copy hx.size hn fun s2 w2 h2 hx2 _=>?_
 exact rt1 (c:=.slice) _ (hx.trans hx2) h2.at
def cmpN (x y:Nat):Int:=if x<y then -1 else if x=y then 0 else 1
theorem cmpN_neg {x y:Nat}:cmpN x y<0↔x<y:=by unfold cmpN;split<;>(try split)<;>omega
theorem cmpN_eq {x y:Nat}:cmpN x y=0↔x=y:=by unfold cmpN;split<;>(try split)<;>omega
theorem cmpN_pos {x y:Nat}:0<cmpN x y↔y<x:=by unfold cmpN;split<;>(try split)<;>omega
theorem limb_Cmp {w:TW} {s t:Sl} {x y:Nat} (hs:Nt w s x) (ht:Nt w t y):Ct Pg F.limb_Cmp [s.v,t.v] w none_ [.one (.int .i64)] fun (r:Int) _=>r=cmpN x y:=by
 obtain ⟨l,hs,rfl⟩:=hs
 obtain ⟨m,ht,rfl⟩:=ht
 refine Ct.limb_Cmp ?_
 unfold Sh.limb_Cmp
 refine c1 (api_Nat_Len hs.here) ?_
 rintro r w1 hx rfl
 refine c1 (api_Nat_Len (ht.here.ext hx)) ?_
 rintro r w2 hx2 rfl
 have hx:=hx.trans hx2
 refine cnd_i (fun h0=>?_) (fun h0=>?_)
 ·have h0:sz (vl W64 l)≠sz (vl W64 m):=by intro h;simp [h] at h0
  refine cnd_d (fun h1=>?_) (fun h1=>?_)
  ·refine rt1 (c:=.int .i64) _ hx ?_
   rw [cmpN,if_pos]
   exact Nat.lt_of_not_le fun h=>by have:=sz_mono h;omega
  ·refine rt1 (c:=.int .i64) _ hx ?_
   have:¬vl W64 l≤vl W64 m:=fun h=>by have:=sz_mono h;omega
   rw [cmpN,if_neg (by omega),if_neg (by omega)]
 ·have h0:sz (vl W64 l)=sz (vl W64 m):=by simp at h0;omega
  have hl:=hs.len
  have hm:=ht.len
  have hl1:=sz_vl hs.sm
  have hm1:=sz_vl ht.sm
  have hc:=hs.le
  refine bnd_wi (by omega) (by omega) ?_
  have hzl:=dg_vl_drop W2 hs.sm
  have hzm:=dg_vl_drop W2 ht.sm
  refine jn (fun w'=>Ext none_ w.here w'∧vl W64 l=vl W64 m) ?_ ?_
  ·refine lp1 (fun k (i:Int) w'=>∃j:Nat,i=j-1∧k=j∧j≤l.length∧j≤m.length∧vl W64 (l.drop j)=vl W64 (m.drop j)∧Ext none_ w.here w') (sz (vl W64 l)) ⟨sz (vl W64 l),rfl,rfl,by omega,by omega,?_,hx⟩ ?_
   ·rw [sz] at h0 hl1 ⊢
    rw [hzl,h0]
    exact hzm.symm
   ·rintro k i w' ⟨j,rfl,rfl,hj,hj2,he,hx⟩
    refine cnd_d (fun h1=>?_) (fun h1=>?_)
    ·have hs1:=(hs.here.ext hx).drew
     have ht1:=(ht.here.ext hx).drew
     have e1:(k:Int)-1=(k-1:Nat):=by omega
     refine hs1.idx e1 (by omega) (ht1.idx e1 (by omega) ?_)
     have hsp1:=vl_split W64 (l.drop (k-1)) 1 (by simp;omega)
     have hsp2:=vl_split W64 (m.drop (k-1)) 1 (by simp;omega)
     rw [List.drop_drop,show k-1+1=k by omega] at hsp1 hsp2
     have ht1':(l.drop (k-1)).take 1=[l[k-1]]:=by rw [List.drop_eq_getElem_cons (by omega:k-1<l.length),List.take_succ_cons];rfl
     have ht2':(m.drop (k-1)).take 1=[m[k-1]]:=by rw [List.drop_eq_getElem_cons (by omega:k-1<m.length),List.take_succ_cons];rfl
     refine cnd_i (fun h2=>?_) (fun h2=>?_)
     ·have h2:l[k-1]≠m[k-1]:=by simp at h2;omega
      refine hs1.drew.idx e1 (by omega) (ht1.drew.idx e1 (by omega) ?_)
      refine cnd_d (fun h3=>?_) (fun h3=>?_)
      ·refine rt1 (c:=.int .i64) _ hx.drew.drew ?_
       rw [cmpN,if_pos]
       exact vl_lt_of_top hs.sm (k:=k-1) (m:=m) (by omega) (by omega) (by omega) (by rw [show k-1+1=k by omega,he];exact Nat.le_refl _)
      ·refine rt1 (c:=.int .i64) _ hx.drew.drew ?_
       have:=vl_lt_of_top ht.sm (k:=k-1) (m:=l) (by omega) (by omega) (by omega) (by rw [show k-1+1=k by omega,he];exact Nat.le_refl _)
       rw [cmpN,if_neg (by omega),if_neg (by omega)]
     ·have h2:l[k-1]=m[k-1]:=by simp at h2;omega
      refine bnd_wi (by omega) (by omega) ⟨k-1,by omega,k-1,by omega,rfl,by omega,by omega,?_,hx.drew⟩
      rw [hsp1,hsp2,ht1',ht2',h2,he]
    ·refine ⟨hx,?_⟩
     have:k=0:=by omega
     subst this
     simpa using he
  ·rintro w' ⟨hx,he⟩
   refine rt1 (c:=.int .i64) _ hx ?_
   rw [cmpN,if_neg (by omega),if_pos he]
end Go.Proofs.YtjhfalgmgagdhaaGreatDoor.Zg
end

section
namespace Go.Proofs.YtjhfalgmgagdhaaGreatDoor.Zg
theorem add_step {B P A a b c s c' p:Nat} (h:P+p*c=A) (hs:s=(a+b+c)%B) (hc:c'=(a+b+c)/B):P+p*s+p*B*c'=A+p*(a+b):=by
 have:=Nat.mod_add_div (a+b+c) B
 subst hs hc
 grind
theorem sub_step {B P Q A a b c s c' p:Nat} (h:P+Q=A+p*c) (ha:a<B) (hb:b<B) (hc1:c≤1) (hs:s=(a+B-b-c)%B) (hc:c'=if a<b+c then 1 else 0):P+p*s+(Q+p*b)=A+p*a+p*B*c':=by
 have h2:s+b+c=a+B*c':=by
  subst hs hc
  split
  ·rw [Nat.mod_eq_of_lt (by omega)];omega
  ·rw [show a+B-b-c=a-b-c+B by omega,Nat.add_mod_right,Nat.mod_eq_of_lt (by omega)];omega
 grind
theorem limb_Add {w:TW} {s t:Sl} {x y:Nat} (hs:Nt w s x) (ht:Nt w t y) (hx:sz x≤1099511627776) (hy:sz y≤1099511627776):Ct Pg F.limb_Add [s.v,t.v] w none_ [.one .slice] fun (s':Sl) w'=>On w' w.w.heap.size s' (x+y):=by
 refine Ct.limb_Add ?_
 unfold Sh.limb_Add
 refine tr hs.here fun s1 w1 e1 h1=>tr (ht.here.ext e1) fun s2 w2 e2 h2=>?_
 have h1:=h1.ext e2
 have e:=e1.trans e2
 have l1:=h1.len
 have l2:=h2.len
 refine j2 (fun (a b:Sl) w3=>∃X Y,Rd w3 a (dg W64 X)∧Rd w3 b (dg W64 Y)∧X+Y=x+y∧sz Y≤sz X∧sz X≤1099511627776∧Ext none_ w.here w3) ?_ ?_
 ·refine cnd_d (fun h0=>?_) (fun h0=>?_)
  ·exact ⟨y,x,h2,h1,Nat.add_comm _ _,by simp only [sz];omega,hy,e⟩
  ·exact ⟨x,y,h1,h2,rfl,by simp only [sz];omega,hx,e⟩
 rintro a b w3 ⟨X,Y,ha,hb,hXY,hle,hX,e⟩
 have la:=ha.len
 rw [dg_len] at la
 refine bnd_wi (by omega) (by omega) (mk_u64 (N:=sz X+1) (by omega) (by omega) fun o w4 ho hon e4 hbk=>?_)
 refine j1 (fun (c:Int) w5=>∃(P:List Nat) (d:Nat),c=d∧d≤1∧P.length=sz X∧vl W64 P+W64^sz X*d=X+Y∧Ow w5 w3.w.heap.size o (P++[0])∧Ext none_ w3 w5) ?_ ?_
 ·refine lp2 (fun m (c i:Int) w5=>∃(j d:Nat) (P:List Nat),c=d∧i=j∧m=sz X-j∧j≤sz X∧d≤1∧P.length=j∧vl W64 P+W64^j*d=vl W64 ((dg W64 X).take j)+vl W64 ((dg W64 Y).take j)∧Ow w5 w3.w.heap.size o (P++List.replicate (sz X+1-j) 0)∧Ext none_ w3 w5) (sz X) ⟨0,0,[],rfl,rfl,by omega,by omega,by omega,rfl,rfl,ho,e4⟩ ?_
  rintro m c i w5 ⟨j,d,P,rfl,rfl,rfl,hj,hd,hP,hv,ho,e5⟩
  refine cnd_d (fun h0=>?_) (fun h0=>?_)
  ·have hj1:j<(dg W64 X).length:=by rw [dg_len];omega
   refine (hb.ext e5).at0 rfl ((ha.ext e5).ix rfl hj1 ⟨_,_,_,rfl,rfl,rfl,hd,?_⟩)
   rw [show sz X+1-j=(sz X-j)+1 by omega] at ho
   refine ho.put (by omega) (Nat.mod_lt _ (by decide)) rfl fun w6 ho e6=>?_
   refine bnd_wi (by omega) (by omega) ⟨sz X-(j+1),by omega,j+1,_,P++[_],rfl,by omega,rfl,by omega,?_,by simp [hP],?_,by rw [show sz X+1-(j+1)=sz X-j by omega];exact ho,e5.own e6 ho.blk_le⟩
   ·have h3:=ha.lt j
    have h4:=hb.lt j
    omega
   ·rw [vl_snoc,hP,Nat.pow_succ,add_step hv rfl rfl,vl_take_getD,vl_take_getD]
    grind
  ·have hj:j=sz X:=by omega
   subst hj
   refine ⟨P,d,rfl,hd,hP,?_,by rwa [show sz X+1-sz X=1 by omega] at ho,e5⟩
   rw [hv,vl_take_all (by simp [sz]),vl_take_all (by simpa [sz] using hle),vl_dg W2,vl_dg W2]
 ·rintro c w5 ⟨P,d,rfl,hd,hP,hv,ho,e5⟩
  refine ho.put (k:=0) (by omega) (one_w hd) rfl fun w6 ho e6=>?_
  have e5:=e5.own e6 ho.blk_le
  refine trO ho fun s' w7 e7 h7=>rt1 (c:=.slice) _ ((e.trans e5).trans e7) ?_
  rw [List.replicate_zero,List.append_nil,vl_snoc,hP,hv,hXY] at h7
  exact (h7.less e.size).at
end Go.Proofs.YtjhfalgmgagdhaaGreatDoor.Zg
end

section
namespace Go.Proofs.YtjhfalgmgagdhaaGreatDoor.Zg
theorem mul_hi (M x y:Nat):x*y=M*M*(x/M*(y/M)+(x/M*(y%M)+x%M*(y%M)/M)/M+((x/M*(y%M)+x%M*(y%M)/M)%M+x%M*(y/M))/M)+(M*(((x/M*(y%M)+x%M*(y%M)/M)%M+x%M*(y/M))%M)+x%M*(y%M)%M):=by
 have hx:=Nat.div_add_mod x M
 have hy:=Nat.div_add_mod y M
 have h4:=Nat.div_add_mod (x%M*(y%M)) M
 have h7:=Nat.div_add_mod (x/M*(y%M)+x%M*(y%M)/M) M
 have h11:=Nat.div_add_mod ((x/M*(y%M)+x%M*(y%M)/M)%M+x%M*(y/M)) M
 generalize x/M=a at*
 generalize x%M=b at*
 generalize y/M=c at*
 generalize y%M=d at*
 generalize b*d/M=n6 at*
 generalize b*d%M=r0 at*
 generalize (a*d+n6)/M=n9 at*
 generalize (a*d+n6)%M=n8 at*
 generalize (n8+b*c)/M=n14 at*
 generalize (n8+b*c)%M=r1 at*
 subst hx hy
 grind
theorem bits_Mul64 {w:TW} {x y:Nat} (hx:x<W64) (hy:y<W64):Ct Pg F.bits_Mul64 [.int .u64 x,.int .u64 y] w none_ [.one (.int .u64),.one (.int .u64)] fun (hi lo:Int) _=>hi=(x*y/W64:Nat)∧lo=(x*y%W64:Nat):=by
 refine Ct.bits_Mul64 ?_
 unfold Sh.bits_Mul64
 have e:=mul_hi 4294967296 x y
 have e32:(2:Nat)^32=4294967296:=by decide
 have hW:W64=4294967296*4294967296:=by decide
 have h1:x/4294967296<4294967296:=Nat.div_lt_of_lt_mul (by rwa [←hW])
 have h3:y/4294967296<4294967296:=Nat.div_lt_of_lt_mul (by rwa [←hW])
 have h0:x%4294967296<4294967296:=Nat.mod_lt _ (by decide)
 have h2:y%4294967296<4294967296:=Nat.mod_lt _ (by decide)
 have hxy:x*y<W64*W64:=Nat.mul_lt_mul'' hx hy
 refine bnd_low (x:=x) (k:=32) rfl (by decide) hx (by decide) ?_
 refine shrN (x:=x) (n:=32) rfl rfl (by decide) ?_
 refine bnd_low (x:=y) (k:=32) rfl (by decide) hy (by decide) ?_
 refine shrN (x:=y) (n:=32) rfl rfl (by decide) ?_
 rw [e32]
 generalize x/4294967296=a at*
 generalize x%4294967296=b at*
 generalize y/4294967296=c at*
 generalize y%4294967296=d at*
 have hbd:b*d≤4294967295*4294967295:=Nat.mul_le_mul (by omega) (by omega)
 have had:a*d≤4294967295*4294967295:=Nat.mul_le_mul (by omega) (by omega)
 have hbc:b*c≤4294967295*4294967295:=Nat.mul_le_mul (by omega) (by omega)
 have hac:a*c≤4294967295*4294967295:=Nat.mul_le_mul (by omega) (by omega)
 refine bnd_wu' (y:=b*d) (by simp) (by rw [w64];omega) ?_
 refine bnd_wu' (y:=a*d) (by simp) (by rw [w64];omega) ?_
 refine shrN (x:=b*d) (n:=32) rfl rfl (by decide) ?_
 rw [e32]
 refine bnd_wu' (y:=a*d+b*d/4294967296) (by simp) (by rw [w64];omega) ?_
 refine bnd_low (x:=a*d+b*d/4294967296) (k:=32) rfl (by decide) (by rw [w64];omega) (by decide) ?_
 refine shrN (x:=a*d+b*d/4294967296) (n:=32) rfl rfl (by decide) ?_
 rw [e32]
 refine bnd_wu' (y:=b*c) (by simp) (by rw [w64];omega) ?_
 refine bnd_wu' (y:=(a*d+b*d/4294967296)%4294967296+b*c) (by simp) (by rw [w64];omega) ?_
 refine bnd_wu' (y:=a*c) (by simp) (by rw [w64];omega) ?_
 refine bnd_wu' (y:=a*c+(a*d+b*d/4294967296)/4294967296) (by simp) (by rw [w64];omega) ?_
 refine shrN (x:=(a*d+b*d/4294967296)%4294967296+b*c) (n:=32) rfl rfl (by decide) ?_
 rw [e32]
 have hH:a*c+(a*d+b*d/4294967296)/4294967296+((a*d+b*d/4294967296)%4294967296+b*c)/4294967296=x*y/W64:=by
  rw [e]
  generalize a*c+(a*d+b*d/4294967296)/4294967296+((a*d+b*d/4294967296)%4294967296+b*c)/4294967296=H
  rw [hW]
  omega
 refine bnd_wu' (y:=x*y/W64) (by rw [←hH];simp) (Nat.div_lt_of_lt_mul hxy) ?_
 refine bnd_wu (y:=x*y) (by simp) ?_
 exact rt2 (c:=.int .u64) (d:=.int .u64) _ _ (Ext.refl _ _) ⟨rfl,rfl⟩
end Go.Proofs.YtjhfalgmgagdhaaGreatDoor.Zg
end

section
namespace Go.Proofs.YtjhfalgmgagdhaaGreatDoor.Zg
theorem limb_Sub {w:TW} {s t:Sl} {x y:Nat} (hs:Nt w s x) (ht:Nt w t y) (hx:sz x≤1099511627776):Ct Pg F.limb_Sub [s.v,t.v] w none_ [.one .slice,.one .bool] fun (s':Sl) (ok:Bool) w'=>ok=decide (y≤x)∧On w' w.w.heap.size s' (x-y):=by
 refine Ct.limb_Sub ?_
 unfold Sh.limb_Sub
 refine tr hs.here fun s1 w1 e1 h1=>tr (ht.here.ext e1) fun s2 w2 e2 h2=>?_
 have h1:=h1.ext e2
 refine c1 (limb_Cmp h1.nt h2.nt) ?_
 rintro r w3 e3 rfl
 have e:=(e1.trans e2).trans e3
 have ha:=h1.ext e3
 have hb:=h2.ext e3
 rw [vl_dg W2,vl_dg W2]
 refine cnd_d (fun h0=>?_) (fun h0=>?_)
 ·have h0:x<y:=cmpN_neg.1 h0
  refine rt2 (c:=.slice) (d:=.bool) Sl.nil false e ⟨by simp;omega,?_⟩
  rw [show x-y=0 by omega]
  exact On.nil _ _
 have h0:y≤x:=Nat.not_lt.1 fun h=>h0 (cmpN_neg.2 h)
 have hle:=sz_mono h0
 have la:=ha.len
 rw [dg_len] at la
 refine mk_u64 (N:=sz x) (by omega) (by omega) fun o w4 ho hon e4 hbk=>?_
 refine j0 (fun w5=>∃(P:List Nat),vl W64 P=x-y∧Ow w5 w3.w.heap.size o P∧Ext none_ w3 w5) ?_ ?_
 ·refine lp2 (fun m (c i:Int) w5=>∃(j d:Nat) (P:List Nat),c=d∧i=j∧m=sz x-j∧j≤sz x∧d≤1∧P.length=j∧vl W64 P+vl W64 ((dg W64 y).take j)=vl W64 ((dg W64 x).take j)+W64^j*d∧Ow w5 w3.w.heap.size o (P++List.replicate (sz x-j) 0)∧Ext none_ w3 w5) (sz x) ⟨0,0,[],rfl,rfl,by omega,by omega,by omega,rfl,rfl,ho,e4⟩ ?_
  rintro m c i w5 ⟨j,d,P,rfl,rfl,rfl,hj,hd,hP,hv,ho,e5⟩
  refine cnd_d (fun h0=>?_) (fun h0=>?_)
  ·have hj1:j<(dg W64 x).length:=by rw [dg_len];omega
   refine (hb.ext e5).at0 rfl ((ha.ext e5).ix rfl hj1 ⟨_,_,_,rfl,rfl,rfl,hd,?_⟩)
   rw [show sz x-j=(sz x-(j+1))+1 by omega] at ho
   refine ho.put (by omega) (Nat.mod_lt _ (by decide)) rfl fun w6 ho e6=>?_
   refine bnd_wi (by omega) (by omega) ⟨sz x-(j+1),by omega,j+1,_,P++[_],rfl,by omega,rfl,by omega,?_,by simp [hP],?_,ho,e5.own e6 ho.blk_le⟩
   ·split<;>omega
   ·rw [vl_snoc,hP,Nat.pow_succ,vl_take_getD,vl_take_getD]
    exact sub_step hv (ha.lt j) (hb.lt j) hd rfl rfl
  ·have hj:j=sz x:=by omega
   subst hj
   rw [vl_take_all (l:=dg W64 y) (by rw [dg_len];exact hle),vl_take_all (l:=dg W64 x) (by rw [dg_len];exact Nat.le_refl _),vl_dg W2,vl_dg W2] at hv
   rw [Nat.sub_self,List.replicate_zero,List.append_nil] at ho
   refine ⟨P,?_,ho,e5⟩
   have:=vl_lt ho.sm
   rw [hP] at this
   have:d=0:=by
    rcases Nat.eq_zero_or_pos d with h|h
    ·exact h
    ·have:d=1:=by omega
     subst this;omega
   subst this;omega
 ·rintro w5 ⟨P,hv,ho,e5⟩
  refine trO ho fun s' w7 e7 h7=>rt2 (c:=.slice) (d:=.bool) _ _ ((e.trans e5).trans e7) ⟨by simp [h0],?_⟩
  rw [hv] at h7
  exact (h7.less e.size).at
theorem mul_step {B p L L' v lo hi c s3 c1 s4 c2 c' b y A Q:Nat} (hp:hi*B+lo=b*y) (h1:s3=(lo+c+0)%B) (h2:c1=(lo+c+0)/B) (h3:s4=(v+s3+0)%B) (h4:c2=(v+s3+0)/B) (hc:c'=hi+c1+c2) (hL:L'+p*v=L+p*s4) (hi0:L+p*c=A+Q*y):L'+p*B*c'=A+(Q+p*b)*y:=by
 rw [Nat.add_zero] at h1 h2 h3 h4
 have e1:=Nat.div_add_mod (lo+c) B
 have e2:=Nat.div_add_mod (v+s3) B
 rw [←h1,←h2] at e1
 rw [←h3,←h4] at e2
 have e3:s4+B*c'=v+c+b*y:=by subst hc;grind
 have e4:p*s4+p*(B*c')=p*v+p*c+p*(b*y):=by rw [←Nat.mul_add,e3];grind
 grind
theorem limb_AddMul {w:TW} {s t:Sl} {x z y:Nat} (hs:Nt w s x) (ht:Nt w t z) (hy:y<W64) (hx:sz x≤1099511627776) (hz:sz z≤1099511627776):Ct Pg F.limb_AddMul [s.v,t.v,.int .u64 y] w none_ [.one .slice] fun (s':Sl) w'=>On w' w.w.heap.size s' (x+z*y):=by
 refine Ct.limb_AddMul ?_
 unfold Sh.limb_AddMul
 refine tr hs.here fun s1 w1 e1 h1=>tr (ht.here.ext e1) fun s2 w2 e2 h2=>?_
 have ha:=h1.ext e2
 have e:=e1.trans e2
 have la:=ha.len
 have hb:=h2
 have lb:=hb.len
 rw [dg_len] at la lb
 obtain ⟨N,hN⟩:∃N,N=max (sz z+1) (sz x)+1:=⟨_,rfl⟩
 have hNe:sz x≤N∧sz z≤N∧N≤1099511627780:=by omega
 have hbig:x+z*y<W64^N:=by
  refine pow_lt (Nat.le_trans (sz_add _ _) ?_)
  have:=sz_mul z y
  have:=sz_word hy
  omega
 refine bnd_wi (by omega) (by omega) ?_
 refine bnd_i ?_
 refine bnd_wi (by split<;>omega) (by split<;>omega) ?_
 refine mk_u64 (N:=N) (by split<;>omega) (by omega) fun o w4 ho hon e4 hbk=>?_
 refine ho.cpy (ha.ext e4) (by simp [dg_len];omega) fun w5 ho e5=>?_
 have e5:=e4.own e5 ho.blk_le
 clear e4
 refine j0 (fun w6=>∃(P:List Nat),vl W64 P=x+z*y∧Ow w6 w2.w.heap.size o P∧Ext none_ w2 w6) ?_ ?_
 ·refine lp2 (fun m (c i:Int) w6=>∃(j d:Nat) (P:List Nat),c=d∧i=j∧m=N-j∧j≤N∧d<W64∧P.length=N∧vl W64 P+W64^j*d=x+vl W64 ((dg W64 z).take j)*y∧Ow w6 w2.w.heap.size o P∧Ext none_ w2 w6) N ⟨0,0,_,rfl,rfl,by omega,by omega,by decide,by simp [dg_len];omega,?_,ho,e5⟩ ?_
  ·rw [vl_append,vl_dg W2,List.drop_replicate,vl_zeros]
   simp [vl_nil]
  rintro m c i w6 ⟨j,d,P,rfl,rfl,rfl,hj,hd,hP,hv,ho,e6⟩
  have hfin:d=0→sz z≤j→vl W64 P=x+z*y:=fun h1 h2=>by
   subst h1
   rw [vl_take_all (by simpa [dg_len] using h2),vl_dg W2] at hv
   simpa using hv
  refine cnd_d (fun h0=>?_) (fun h0=>?_)
  ·refine j1 (fun (b:Bool) w7=>w7=w6∧b=decide (sz z≤j∧d=0)) ?_ ?_
   ·refine cnd_d (fun h1=>?_) (fun h1=>?_)
    ·refine ⟨rfl,?_⟩
     rw [Bool.eq_iff_iff];simp;omega
    ·refine ⟨rfl,?_⟩
     rw [Bool.eq_iff_iff];simp;omega
   rintro b w7 ⟨rfl,rfl⟩
   refine cnd_d (fun h1=>⟨P,hfin h1.2 h1.1,ho,e6⟩) (fun h1=>?_)
   refine j2 (fun (hi lo:Int) w8=>hi=((dg W64 z).getD j 0*y/W64:Nat)∧lo=((dg W64 z).getD j 0*y%W64:Nat)∧Ext none_ w7 w8) ?_ ?_
   ·refine cnd_d (fun h2=>?_) (fun h2=>?_)
    ·refine (hb.ext e6).ix rfl (by rw [dg_len];omega) ?_
     refine c2 (bits_Mul64 (hb.lt j) hy) ?_
     rintro hi lo w8 e8 ⟨rfl,rfl⟩
     exact ⟨rfl,rfl,e8⟩
    ·have:(dg W64 z).getD j 0=0:=getD_past (by rw [dg_len];omega)
     rw [this]
     refine ⟨by simp,by simp,Ext.refl _ _⟩
   rintro hi lo w8 ⟨rfl,rfl,e8⟩
   have e6:=e6.trans e8
   have ho:=ho.ext e8
   clear e8
   have hgo:vl W64 ((dg W64 z).take (j+1))=vl W64 ((dg W64 z).take j)+W64^j*(dg W64 z).getD j 0:=vl_take_getD _ _ _
   have h3:=hb.lt j
   generalize (dg W64 z).getD j 0=bj at*
   have hm:=Nat.div_add_mod (bj*y) W64
   have hlt:bj*y+d+P.getD j 0<W64*W64:=by
    have h4:=ho.rd.lt j
    have:bj*y≤18446744073709551615*18446744073709551615:=Nat.mul_le_mul (by omega) (by rw [w64] at hy;omega)
    rw [w64] at hd ⊢
    omega
   generalize hH:bj*y/W64=H at*
   generalize hL:bj*y%W64=L at*
   generalize hV:P.getD j 0=V at*
   have hL1:L<W64:=by rw [←hL];exact Nat.mod_lt _ (by decide)
   have hjP:j<P.length:=by omega
   refine ⟨L,d,0,rfl,rfl,rfl,by omega,?_⟩
   rw [w64] at hm hlt hL1 hd
   have hV1:=ho.rd.lt j
   rw [hV] at hV1
   refine bnd_wu' (y:=H+(L+d+0)/18446744073709551616) (by simp) (by rw [w64];omega) ?_
   refine ho.rd.ix rfl hjP ?_
   rw [hV]
   refine ⟨V,(L+d+0)%18446744073709551616,0,rfl,rfl,rfl,by omega,?_⟩
   refine ho.store (j:=j) rfl hjP (Nat.mod_lt _ (by decide)) rfl fun w9 ho9 e9=>?_
   refine bnd_wu' (y:=H+(L+d+0)/18446744073709551616+(V+(L+d+0)%18446744073709551616+0)/18446744073709551616) (by simp) (by rw [w64];omega) ?_
   refine bnd_wi (by omega) (by omega) ⟨N-(j+1),by omega,j+1,_,_,rfl,by omega,rfl,by omega,by rw [w64];omega,by simp [hP],?_,ho9,e6.own e9 ho9.blk_le⟩
   rw [Nat.pow_succ,hgo]
   refine mul_step (by rw [w64];omega) rfl rfl rfl rfl rfl ?_ hv
   have:=vl_set (b:=W64) hjP ((V+(L+d+0)%18446744073709551616+0)%18446744073709551616)
   rwa [show P[j]=V by rw [←hV];simp [hjP]] at this
  ·refine ⟨P,?_,ho,e6⟩
   have:j=N:=by omega
   subst this
   rw [vl_take_all (by rw [dg_len];omega),vl_dg W2] at hv
   rcases Nat.eq_zero_or_pos d with h|h
   ·subst h;simpa using hv
   ·have:=Nat.mul_le_mul_left (W64^j) h
    omega
 ·rintro w5 ⟨P,hv,ho,e5⟩
  refine trO ho fun s' w7 e7 h7=>rt1 (c:=.slice) _ ((e.trans e5).trans e7) ?_
  rw [hv] at h7
  exact (h7.less e.size).at
theorem limb_MulWord {w:TW} {t:Sl} {z y:Nat} (ht:Nt w t z) (hy:y<W64) (hz:sz z≤1099511627776):Ct Pg F.limb_MulWord [t.v,.int .u64 y] w none_ [.one .slice] fun (s':Sl) w'=>On w' w.w.heap.size s' (z*y):=by
 refine Ct.limb_MulWord ?_
 unfold Sh.limb_MulWord
 refine c1 (limb_AddMul (s:=Sl.nil) (x:=0) (t:=t) (z:=z) (y:=y) (Nt.nil _) ht.here hy (by rw [sz0];omega) hz) ?_
 intro s' w' e h
 rw [Nat.zero_add] at h
 exact rt1 (c:=.slice) _ e h.at
theorem limb_SubMul {w:TW} {s t:Sl} {x z y:Nat} (hs:Nt w s x) (ht:Nt w t z) (hy:y<W64) (hx:sz x≤1099511627776) (hz:sz z≤1099511627776):Ct Pg F.limb_SubMul [s.v,t.v,.int .u64 y] w none_ [.one .slice,.one .bool] fun (s':Sl) (ok:Bool) w'=>ok=decide (z*y≤x)∧On w' w.w.heap.size s' (x-z*y):=by
 refine Ct.limb_SubMul ?_
 unfold Sh.limb_SubMul
 refine c1 (limb_MulWord ht.here hy hz) ?_
 intro s1 w1 e1 h1
 refine c2 (limb_Sub (hs.here.ext e1) h1.nt hx) ?_
 rintro s2 ok w2 e2 ⟨rfl,h2⟩
 exact rt2 (c:=.slice) (d:=.bool) _ _ (e1.trans e2) ⟨rfl,(h2.less e1.size).at⟩
theorem limb_One {w:TW} {y:Nat} (hy:y<W64):Ct Pg F.limb_One [.int .u64 y] w none_ [.one .slice] fun (s':Sl) w'=>On w' w.w.heap.size s' y:=by
 refine Ct.limb_One ?_
 unfold Sh.limb_One
 refine cnd_i (fun h=>?_) (fun h=>?_)
 ·have:y=0:=by simp at h;omega
  subst this
  exact rt1 (c:=.slice) Sl.nil (Ext.refl _ _) (On.nil _ _)
 ·have h0:0<y:=by simp at h;omega
  refine nw_u64 rfl hy fun b w' h e=>rt1 (c:=.slice) ⟨some ⟨b,0,none⟩,1,1⟩ e ?_
  have e1:dg W64 y=[y]:=by rw [dg_pos W2 h0,Nat.mod_eq_of_lt hy,Nat.div_eq_of_lt hy,dg_zero]
  rw [On,e1]
  exact h.at
end Go.Proofs.YtjhfalgmgagdhaaGreatDoor.Zg
end

section
namespace Go.Proofs.YtjhfalgmgagdhaaGreatDoor.Zg
theorem w_pow:W64=2^64:=by decide
theorem two_split (n:Nat):2^n=W64^(n/64)*2^(n%64):=by
 rw [w_pow,←Nat.pow_mul,←Nat.pow_add,Nat.div_add_mod]
theorem vl_drop_div {l:List Nat} (h:Sm W64 l) (k:Nat):vl W64 (l.drop k)=vl W64 l/W64^k∧vl W64 (l.take k)=vl W64 l%W64^k:=by
 rcases Nat.lt_or_ge l.length k with hk|hk
 ·have hlt:vl W64 l<W64^k:=Nat.lt_of_lt_of_le (vl_lt h) (Nat.pow_le_pow_right (by decide) (Nat.le_of_lt hk))
  rw [List.drop_of_length_le (Nat.le_of_lt hk),List.take_of_length_le (Nat.le_of_lt hk),Nat.div_eq_of_lt hlt,Nat.mod_eq_of_lt hlt]
  exact ⟨rfl,rfl⟩
 ·have h1:=vl_split W64 l k hk
  have h2:=vl_lt (h.take k)
  rw [List.length_take,Nat.min_eq_left hk] at h2
  have h3:0<W64^k:=Nat.pow_pos (by decide)
  rw [h1,Nat.add_mul_div_left _ _ h3,Nat.div_eq_of_lt h2,Nat.zero_add,Nat.add_mul_mod_self_left,Nat.mod_eq_of_lt h2]
  exact ⟨rfl,rfl⟩
theorem dg_drop (x k:Nat):(dg W64 x).drop k=dg W64 (x/W64^k):=by
 have h:=(vl_drop_div (dg_sm W2 x) k).1
 rw [vl_dg W2] at h
 rw [←h]
 refine (dg_of_last W2 ((dg_sm W2 x).drop k) fun y hy=>?_).symm
 rw [List.getLast?_drop] at hy
 split at hy
 ·cases hy
 ·exact dg_last W2 x y hy
theorem limb_Shl {w:TW} {s:Sl} {x:Nat} {n:Int} (hs:Nt w s x) (hx:sz x≤1099511627776):Ct Pg F.limb_Shl [s.v,.int .i64 n] w none_ [.one .slice] fun (s':Sl) w'=>On w' w.w.heap.size s' (x*2^min n.toNat 1048576):=by
 refine Ct.limb_Shl ?_
 unfold Sh.limb_Shl
 refine c1 (limb_within (by decide)) ?_
 rintro r w1 e1 rfl
 refine tr (hs.here.ext e1) fun s2 w2 e2 ha=>?_
 have e:=e1.trans e2
 have la:=ha.len
 rw [dg_len] at la
 have hn:min n.toNat (1048576:Int).toNat≤1048576:=by omega
 rw [show (1048576:Int).toNat=1048576 by rfl] at hn ⊢
 generalize min n.toNat 1048576=N at*
 refine cnd_i (fun h0=>?_) (fun h0=>?_)
 ·have:sz x=0:=by simp at h0;omega
  rw [sz_zero] at this
  subst this
  refine rt1 (c:=.slice) Sl.nil e ?_
  rw [Nat.zero_mul]
  exact On.nil _ _
 refine divNi (x:=N) (y:=64) rfl rfl (by omega) (by decide) (remN (x:=N) (y:=64) rfl rfl (by decide) ?_)
 refine bnd_wu' (y:=N%64) rfl (by rw [w64];omega) (bnd_wi (by omega) (by omega) (bnd_wi (by omega) (by omega) ?_))
 obtain ⟨k,hk⟩:∃k,k=N/64:=⟨_,rfl⟩
 obtain ⟨b,hb⟩:∃b,b=N%64:=⟨_,rfl⟩
 have hkb:2^N=W64^k*2^b:=by rw [hk,hb];exact two_split N
 rw [←hk,←hb]
 have hb64:b<64:=by omega
 have hk1:k≤16384:=by omega
 clear hk hb
 have hpb:0<2^b:=Nat.two_pow_pos b
 have hbb:2^b*2^(64-b)=W64:=by rw [←Nat.pow_add,w_pow];congr 1;omega
 refine mk_u64 (N:=sz x+k+1) (by omega) (by omega) fun o w4 ho hon e4 hbk=>?_
 refine j0 (fun w5=>∃(P:List Nat),vl W64 P=x*2^N∧Ow w5 w2.w.heap.size o P∧Ext none_ w2 w5) ?_ ?_
 ·refine lp1 (fun m (i:Int) w5=>∃(j t:Nat) (P:List Nat),i=j∧m=sz x-j∧j≤sz x∧P.length=k+j∧t<2^b∧vl W64 P+W64^(k+j)*t=vl W64 ((dg W64 x).take j)*2^N∧Ow w5 w2.w.heap.size o (P++t::List.replicate (sz x-j) 0)∧Ext none_ w2 w5) (sz x) ⟨0,0,List.replicate k 0,rfl,by omega,by omega,by simp,hpb,?_,?_,e4⟩ ?_
  ·rw [vl_zeros];simp [vl_nil]
  ·rwa [show List.replicate k 0++0::List.replicate (sz x-0) 0=List.replicate (sz x+k+1) 0 by
    rw [show (0:Nat)::List.replicate (sz x-0) 0=List.replicate (sz x+1) 0 by simp [List.replicate_succ],List.replicate_append_replicate];congr 1;omega]
  rintro m i w5 ⟨j,t,P,rfl,rfl,hj,hP,ht,hv,ho,e5⟩
  refine cnd_d (fun h0=>?_) (fun h0=>?_)
  ·have hj1:j<(dg W64 x).length:=by rw [dg_len];omega
   refine (ha.ext e5).ix rfl hj1 ?_
   have hd:=ha.lt j
   have hgo:=vl_take_getD W64 (dg W64 x) j
   generalize (dg W64 x).getD j 0=v at*
   refine bnd_wi (by omega) (by omega) (bnd_wi (by omega) (by omega) ?_)
   have hg:((P++t::List.replicate (sz x-j) 0).getD (k+j) 0)=t:=by simp [hP]
   refine ho.rd.ix (j:=k+j) (by omega) (by simp [hP]) ?_
   rw [hg]
   refine shlN (x:=v) (n:=b) rfl rfl (by omega) ?_
   have htW:t<W64:=Nat.lt_of_lt_of_le ht (by rw [w_pow];exact Nat.pow_le_pow_right (by decide) (by omega))
   have hdvd:2^b ∣ v*2^b%W64:=by
    rw [←hbb,Nat.mul_comm v,Nat.mul_mod_mul_left]
    exact Nat.dvd_mul_right _ _
   have hsum:t+v*2^b%W64<W64:=by
    obtain ⟨q,hq⟩:=hdvd
    have h1:v*2^b%W64<W64:=Nat.mod_lt _ (by decide)
    rw [hq] at h1 ⊢
    have:q<2^(64-b):=Nat.lt_of_mul_lt_mul_left (by rw [hbb];exact h1)
    have:=Nat.mul_le_mul_left (2^b) this
    rw [hbb,Nat.mul_succ] at this
    omega
   refine bnd_plus' (k:=b) rfl rfl htW (Nat.mod_lt _ (by decide)) hdvd ht ?_
   refine ho.store (j:=k+j) (by omega) (by simp [hP]) hsum rfl fun w6 ho6 e6=>?_
   have e6:=e5.own e6 ho.blk_le
   have hset:(P++t::List.replicate (sz x-j) 0).set (k+j) (t+v*2^b%W64)=(P++[t+v*2^b%W64])++0::List.replicate (sz x-(j+1)) 0:=by
    rw [show sz x-j=sz x-(j+1)+1 by omega,List.replicate_succ,←hP]
    simp
   rw [hset] at ho6
   have hdm:=Nat.div_add_mod (v*2^b) W64
   have hv':vl W64 (P++[t+v*2^b%W64])+W64^(k+(j+1))*(v*2^b/W64)=vl W64 ((dg W64 x).take (j+1))*2^N:=by
    rw [vl_snoc,hP,hgo,←Nat.add_assoc,Nat.pow_succ]
    have:W64^j*v*2^N=W64^(k+j)*(v*2^b):=by rw [hkb,Nat.pow_add];grind
    rw [Nat.add_mul,←hv,this,←hdm]
    grind
   have htop:v*2^b/W64<2^b:=by
    refine Nat.div_lt_of_lt_mul ?_
    exact Nat.mul_lt_mul_of_pos_right hd hpb
   refine j0 (fun w7=>Ow w7 w2.w.heap.size o ((P++[t+v*2^b%W64])++(v*2^b/W64)::List.replicate (sz x-(j+1)) 0)∧Ext none_ w2 w7) ?_ ?_
   ·refine cnd_d (fun hb0=>?_) (fun hb0=>?_)
    ·refine bnd_wi (by omega) (by omega) (bnd_wi (by omega) (by omega) ?_)
     refine bnd_wu' (y:=64-b) (by omega) (by rw [w64];omega) ?_
     refine shrN (x:=v) (n:=64-b) rfl rfl (by show _≤64;omega) ?_
     have hq:v/2^(64-b)=v*2^b/W64:=by rw [←hbb,Nat.mul_comm v,Nat.mul_div_mul_left _ _ hpb]
     rw [hq]
     refine ho6.store (j:=k+j+1) (by omega) (by simp [hP]) (Nat.lt_of_lt_of_le htop (by rw [w_pow];exact Nat.pow_le_pow_right (by decide) (by omega))) rfl fun w8 ho8 e8=>?_
     refine ⟨?_,e6.own e8 ho6.blk_le⟩
     rw [←hP,show P.length+1=(P++[t+v*2^b%W64]).length by simp] at ho8
     simpa using ho8
    ·have:b=0:=by omega
     subst this
     have:v*2^0/W64=0:=Nat.div_eq_of_lt (by simpa using hd)
     rw [this]
     exact ⟨ho6,e6⟩
   rintro w7 ⟨ho7,e7⟩
   exact bnd_wi (by omega) (by omega) ⟨sz x-(j+1),by omega,j+1,_,_,by omega,rfl,by omega,by simp [hP];omega,htop,hv',ho7,e7⟩
  ·have:j=sz x:=by omega
   subst this
   refine ⟨_,?_,ho,e5⟩
   rw [vl_take_all (by rw [dg_len];exact Nat.le_refl _),vl_dg W2] at hv
   rw [Nat.sub_self,List.replicate_zero,vl_snoc,hP,hv]
 ·rintro w5 ⟨P,hv,ho,e5⟩
  refine trO ho fun s' w7 e7 h7=>rt1 (c:=.slice) _ ((e.trans e5).trans e7) ?_
  rw [hv] at h7
  exact (h7.less e.size).at
end Go.Proofs.YtjhfalgmgagdhaaGreatDoor.Zg
end

section
namespace Go.Proofs.YtjhfalgmgagdhaaGreatDoor.Zg
theorem div_pow_small {x k b:Nat} (h:sz x≤k):x/(W64^k*b)=0:=by
 rw [←Nat.div_div_eq_div_mul,Nat.div_eq_of_lt (pow_lt h),Nat.zero_div]
theorem limb_Shr {w:TW} {s:Sl} {x:Nat} {n:Int} (hs:Nt w s x) (hx:sz x≤1099511627776):Ct Pg F.limb_Shr [s.v,.int .i64 n] w none_ [.one .slice] fun (s':Sl) w'=>On w' w.w.heap.size s' (x/2^min n.toNat 1048576):=by
 refine Ct.limb_Shr ?_
 unfold Sh.limb_Shr
 refine c1 (limb_within (by decide)) ?_
 rintro r w1 e1 rfl
 refine tr (hs.here.ext e1) fun s2 w2 e2 ha=>?_
 have e:=e1.trans e2
 have la:=ha.len
 rw [dg_len] at la
 have hn:min n.toNat (1048576:Int).toNat≤1048576:=by omega
 rw [show (1048576:Int).toNat=1048576 by rfl] at hn ⊢
 generalize min n.toNat 1048576=N at*
 refine divNi (x:=N) (y:=64) rfl rfl (by omega) (by decide) (remN (x:=N) (y:=64) rfl rfl (by decide) ?_)
 refine bnd_wu' (y:=N%64) rfl (by rw [w64];omega) ?_
 obtain ⟨k,hk⟩:∃k,k=N/64:=⟨_,rfl⟩
 obtain ⟨b,hb⟩:∃b,b=N%64:=⟨_,rfl⟩
 have hkb:2^N=W64^k*2^b:=by rw [hk,hb];exact two_split N
 rw [←hk,←hb]
 have hb64:b<64:=by omega
 have hk1:k≤16384:=by omega
 clear hk hb
 have hpb:0<2^b:=Nat.two_pow_pos b
 have hbb:2^b*2^(64-b)=W64:=by rw [←Nat.pow_add,w_pow];congr 1;omega
 refine cnd_d (fun h0=>?_) (fun h0=>?_)
 ·refine rt1 (c:=.slice) Sl.nil e ?_
  rw [hkb,div_pow_small (by omega)]
  exact On.nil _ _
 have h0:k<sz x:=by omega
 refine bnd_wi (by omega) (by omega) ?_
 refine mk_u64 (N:=sz x-k) (by omega) (by omega) fun o w4 ho hon e4 hbk=>?_
 obtain ⟨D,hD⟩:∃D,D=(dg W64 x).drop k:=⟨_,rfl⟩
 have hDl:D.length=sz x-k:=by rw [hD];simp [dg_len]
 have hDv:vl W64 D=x/W64^k:=by rw [hD,(vl_drop_div (dg_sm W2 x) k).1,vl_dg W2]
 have hDg:∀i,(dg W64 x).getD (i+k) 0=D.getD i 0:=fun i=>by rw [hD];simp [Nat.add_comm]
 have hDlt:∀i,D.getD i 0<W64:=fun i=>by rw [←hDg];exact ha.lt _
 refine j0 (fun w5=>∃(P:List Nat),vl W64 P=x/2^N∧Ow w5 w2.w.heap.size o P∧Ext none_ w2 w5) ?_ ?_
 ·refine lp1 (fun m (i:Int) w5=>∃(j:Nat) (P:List Nat),i=j∧m=D.length-j∧j≤D.length∧P.length=j∧2^b*vl W64 P+D.getD 0 0%2^b=vl W64 (D.take j)+W64^j*(D.getD j 0%2^b)∧Ow w5 w2.w.heap.size o (P++List.replicate (D.length-j) 0)∧Ext none_ w2 w5) D.length ⟨0,[],rfl,by omega,by omega,rfl,by simp [vl_nil],by rw [hDl];exact ho,e4⟩ ?_
  rintro m i w5 ⟨j,P,rfl,rfl,hj,hP,hv,ho,e5⟩
  refine cnd_d (fun h1=>?_) (fun h1=>?_)
  ·have hj1:j<D.length:=by omega
   refine bnd_wi (by omega) (by omega) ?_
   refine (ha.ext e5).ix (j:=j+k) (by omega) (by rw [dg_len];omega) ?_
   rw [hDg]
   have hd:=hDlt j
   have hd1:=hDlt (j+1)
   have hgo:=vl_take_getD W64 D j
   have hpast:D.length≤j+1→D.getD (j+1) 0=0:=fun h=>getD_past h
   generalize hv0:D.getD j 0=v at*
   generalize hu0:D.getD (j+1) 0=u at*
   refine shrN (x:=v) (n:=b) rfl rfl (by show _≤64;omega) ?_
   have hq:v/2^b<W64:=Nat.lt_of_le_of_lt (Nat.div_le_self _ _) hd
   rw [show D.length-j=(D.length-(j+1))+1 by omega] at ho
   refine ho.put (by omega) hq rfl fun w6 ho6 e6=>?_
   have e6:=e5.own e6 ho.blk_le
   refine j1 (fun (c:Bool) w7=>w7=w6∧c=decide (0<b∧j+1<D.length)) ?_ ?_
   ·refine cnd_d (fun h2=>?_) (fun h2=>?_)
    ·refine bnd_wi (by omega) (by omega) (bnd_wi (by omega) (by omega) ⟨rfl,?_⟩)
     rw [Bool.eq_iff_iff];simp;omega
    ·refine ⟨rfl,?_⟩
     rw [Bool.eq_iff_iff];simp;omega
   rintro c w7 ⟨rfl,rfl⟩
   have hdm:=Nat.div_add_mod v (2^b)
   have hval:2^b*vl W64 (P++[v/2^b+u%2^b*2^(64-b)])+D.getD 0 0%2^b=vl W64 (D.take (j+1))+W64^(j+1)*(u%2^b):=by
    rw [vl_snoc,hP,hgo,Nat.pow_succ]
    have h3:2^b*(W64^j*(v/2^b+u%2^b*2^(64-b)))=W64^j*(2^b*(v/2^b))+W64^j*(u%2^b)*(2^b*2^(64-b)):=by grind
    rw [Nat.mul_add,h3,hbb]
    have h4:W64^j*v=W64^j*(2^b*(v/2^b))+W64^j*(v%2^b):=by rw [←Nat.mul_add,hdm]
    grind
   refine j0 (fun w8=>Ow w8 w2.w.heap.size o ((P++[v/2^b+u%2^b*2^(64-b)])++List.replicate (D.length-(j+1)) 0)∧Ext none_ w2 w8) ?_ ?_
   ·refine cnd_d (fun h2=>?_) (fun h2=>?_)
    ·have hg:((P++[v/2^b]++List.replicate (D.length-(j+1)) 0).getD j 0)=v/2^b:=by simp [←hP]
     refine ho6.drew.rd.ix (j:=j) rfl (by simp [hP]) ?_
     rw [hg]
     refine bnd_wi (by omega) (by omega) (bnd_wi (by omega) (by omega) ?_)
     refine (ha.ext e6).drew.ix (j:=j+1+k) (by omega) (by rw [dg_len];omega) ?_
     rw [hDg,hu0]
     refine bnd_wu' (y:=64-b) (by omega) (by rw [w64];omega) ?_
     refine shlN (x:=u) (n:=64-b) rfl rfl (by omega) ?_
     have hmod:u*2^(64-b)%W64=u%2^b*2^(64-b):=by rw [←hbb,Nat.mul_mod_mul_right]
     have hlt:v/2^b<2^(64-b):=Nat.div_lt_of_lt_mul (by rw [hbb];exact hd)
     have hu2:u%2^b*2^(64-b)<W64:=by rw [←hmod];exact Nat.mod_lt _ (by decide)
     have hsum:v/2^b+u%2^b*2^(64-b)<W64:=by
      have:u%2^b<2^b:=Nat.mod_lt _ hpb
      have:=Nat.mul_le_mul_right (2^(64-b)) this
      rw [hbb,Nat.succ_mul] at this
      omega
     refine bnd_plus' (k:=64-b) rfl rfl hq (Nat.mod_lt _ (by decide)) (by rw [hmod];exact Nat.dvd_mul_left _ _) hlt ?_
     rw [hmod]
     refine ho6.drew.store (j:=j) rfl (by simp [hP]) hsum rfl fun w8 ho8 e8=>?_
     refine ⟨?_,e6.drew.own e8 ho6.blk_le⟩
     have:(P++[v/2^b]++List.replicate (D.length-(j+1)) 0).set j (v/2^b+u%2^b*2^(64-b))=(P++[v/2^b+u%2^b*2^(64-b)])++List.replicate (D.length-(j+1)) 0:=by simp [←hP]
     rwa [this] at ho8
    ·have:u%2^b=0:=by
      rcases Nat.eq_zero_or_pos b with h|h
      ·subst h;exact Nat.mod_one _
      ·rw [hpast (by omega)];exact Nat.zero_mod _
     rw [this,Nat.zero_mul,Nat.add_zero]
     exact ⟨ho6,e6⟩
   rintro w8 ⟨ho8,e8⟩
   exact bnd_wi (by omega) (by omega) ⟨D.length-(j+1),by omega,j+1,_,by omega,rfl,by omega,by simp [hP],by rw [hu0];exact hval,ho8,e8⟩
  ·have:j=D.length:=by omega
   subst this
   rw [Nat.sub_self,List.replicate_zero,List.append_nil] at ho
   refine ⟨P,?_,ho,e5⟩
   rw [vl_take_all (Nat.le_refl _),getD_past (Nat.le_refl _),Nat.zero_mod,Nat.mul_zero,Nat.add_zero,hDv] at hv
   rw [hkb,←Nat.div_div_eq_div_mul,←hv,Nat.mul_add_div hpb,Nat.div_eq_of_lt (Nat.mod_lt _ hpb),Nat.add_zero]
 ·rintro w5 ⟨P,hv,ho,e5⟩
  refine trO ho fun s' w7 e7 h7=>rt1 (c:=.slice) _ ((e.trans e5).trans e7) ?_
  rw [hv] at h7
  exact (h7.less e.size).at
theorem slc_of {s:Sl} {lo hi:Int} {l h:Nat} {K:Sl→Prop} (h1:lo=l) (h2:hi=h) (h3:l≤h) (h4:h≤s.c) (hK:K (s.cut l h 1)):slc s lo hi 1 K:=by
 subst h1 h2
 exact ⟨by omega,by omega,by omega,by simpa using hK⟩
theorem limb_Low {w:TW} {s:Sl} {x:Nat} {n:Int} (hs:Nt w s x) (hx:sz x≤549755813888):Ct Pg F.limb_Low [s.v,.int .i64 n] w none_ [.one .slice] fun (s':Sl) w'=>On w' w.w.heap.size s' (x%2^min n.toNat 1048576):=by
 refine Ct.limb_Low ?_
 unfold Sh.limb_Low
 refine c1 (limb_within (by decide)) ?_
 rintro r w1 e1 rfl
 refine tr (hs.here.ext e1) fun s2 w2 e2 ha=>?_
 have e:=e1.trans e2
 have la:=ha.len
 rw [dg_len] at la
 have hn:min n.toNat (1048576:Int).toNat≤1048576:=by omega
 rw [show (1048576:Int).toNat=1048576 by rfl] at hn ⊢
 generalize min n.toNat 1048576=N at*
 refine divNi (x:=N) (y:=64) rfl rfl (by omega) (by decide) (remN (x:=N) (y:=64) rfl rfl (by decide) ?_)
 refine bnd_wu' (y:=N%64) rfl (by rw [w64];omega) ?_
 obtain ⟨k,hk⟩:∃k,k=N/64:=⟨_,rfl⟩
 obtain ⟨b,hb⟩:∃b,b=N%64:=⟨_,rfl⟩
 have hkb:2^N=W64^k*2^b:=by rw [hk,hb];exact two_split N
 rw [←hk,←hb]
 have hb64:b<64:=by omega
 have hk1:k≤16384:=by omega
 clear hk hb
 have hpb:0<2^b:=Nat.two_pow_pos b
 have hbb:2^b*2^(64-b)=W64:=by rw [←Nat.pow_add,w_pow];congr 1;omega
 have hcap:=ha.cap
 rw [dg_len] at hcap
 refine cnd_d (fun h0=>?_) (fun h0=>?_)
 ·refine ha.copy e.size (by rw [dg_len];omega) fun s3 w3 h3 e3 _=>rt1 (c:=.slice) _ (e.trans e3) ?_
  rw [Nat.mod_eq_of_lt]
  ·exact h3.at
  ·rw [hkb];exact Nat.lt_of_lt_of_le (pow_lt (by omega:sz x≤k)) (Nat.le_mul_of_pos_right _ hpb)
 have h0:k<sz x:=by omega
 refine slc_of (l:=0) (h:=k) rfl rfl (by omega) (by omega) ?_
 have hc:=ha.cut (Nat.zero_le k) (by rw [dg_len];omega)
 rw [List.drop_zero] at hc
 refine hc.copy (B:=w2.w.heap.size) (Nat.le_refl _) (by simp;omega) fun s3 w3 h3 e3 _=>?_
 refine j1 (fun (t:Sl) w4=>∃P,Ow w4 w2.w.heap.size t P∧vl W64 P=x%2^N∧Ext none_ w2 w4) ?_ ?_
 ·have hrest:∀X,vl W64 ((dg W64 x).take k)+W64^k*(((dg W64 x).getD k 0)%2^b)=X→x%2^N=X:=fun X hX=>by
   subst hX
   have h1:=vl_drop_div (dg_sm W2 x) k
   rw [vl_dg W2] at h1
   have h2:=vl_drop_div (dg_sm W2 x) (k+1)
   rw [vl_dg W2,vl_take_getD] at h2
   have h3:x/W64^k%W64=(dg W64 x).getD k 0:=by
    rw [←h1.1]
    have:=(vl_drop_div ((dg_sm W2 x).drop k) 1).2
    rw [Nat.pow_one] at this
    rw [←this,List.drop_eq_getElem_cons (by rw [dg_len];exact h0),List.take_succ_cons,List.take_zero,vl_one]
    have h9:k<(dg W64 x).length:=h0
    simp [h9]
   rw [h1.2,←h3,hkb,Nat.mod_mul,Nat.mod_mod_of_dvd _ ⟨_,hbb.symm⟩]
  refine cnd_d (fun h1=>?_) (fun h1=>?_)
  ·refine (ha.ext e3).ix rfl (by rw [dg_len];omega) ?_
   have hlt:=ha.lt k
   refine shlN (x:=1) (n:=b) rfl rfl (by omega) ?_
   have h2b:2^b<W64:=by rw [w_pow];exact Nat.pow_lt_pow_right (by decide) hb64
   rw [Nat.one_mul,Nat.mod_eq_of_lt h2b]
   refine bnd_wu' (y:=2^b-1) (by omega) (by omega) ?_
   refine bnd_low (x:=(dg W64 x).getD k 0) (k:=b) rfl rfl hlt (by omega) ?_
   have hm:(dg W64 x).getD k 0%2^b<W64:=Nat.lt_of_le_of_lt (Nat.mod_le _ _) hlt
   refine nw_u64 rfl hm fun bb w4 h4 e4=>?_
   refine (h3.ext e4).cat h4.rd (Nat.le_trans e3.size e4.size) (by simp;omega) fun s5 w5 h5 e5 _=>?_
   refine ⟨_,h5,?_,(e3.trans e4).own e5 h3.blk_le⟩
   rw [vl_snoc]
   refine (hrest _ ?_).symm
   congr 3
   have h9:k≤(dg W64 x).length:=Nat.le_of_lt h0
   simp [h9]
  ·have:b=0:=by omega
   subst this
   refine ⟨_,h3,?_,e3⟩
   exact (hrest _ (by simp [Nat.mod_one])).symm
 ·rintro t w4 ⟨P,h4,hv,e4⟩
  refine trO h4 fun s' w7 e7 h7=>rt1 (c:=.slice) _ ((e.trans e4).trans e7) ?_
  rw [hv] at h7
  exact (h7.less e.size).at
theorem limb_Split {w:TW} {s:Sl} {x:Nat} {k:Int} (hs:Nt w s x) (hx:sz x≤1099511627776):Ct Pg F.limb_Split [s.v,.int .i64 k] w none_ [.one .slice,.one .slice] fun (a b:Sl) w'=>On w' w.w.heap.size a (x%W64^min k.toNat 16384)∧On w' w.w.heap.size b (x/W64^min k.toNat 16384)∧(∀c,b.blk=some c→¬a.blk=some c):=by
 refine Ct.limb_Split ?_
 unfold Sh.limb_Split
 refine c1 (limb_within (by decide)) ?_
 rintro r w1 e1 rfl
 refine tr (hs.here.ext e1) fun s2 w2 e2 ha=>?_
 have e:=e1.trans e2
 have la:=ha.len
 have hcap:=ha.cap
 rw [dg_len] at la hcap
 rw [show (16384:Int).toNat=16384 by rfl]
 generalize min k.toNat 16384=N at*
 refine cnd_d (fun h0=>?_) (fun h0=>?_)
 ·refine ha.copy e.size (by rw [dg_len];omega) fun s3 w3 h3 e3 _=>rt2 (c:=.slice) (d:=.slice) s3 Sl.nil (e.trans e3) ?_
  have hlt:x<W64^N:=pow_lt (by omega)
  rw [Nat.mod_eq_of_lt hlt,Nat.div_eq_of_lt hlt]
  exact ⟨h3.at,On.nil _ _,fun c hc=>by simp [Sl.blk] at hc⟩
 ·refine slc_of (l:=0) (h:=N) rfl rfl (by omega) (by omega) (slc_of (l:=N) (h:=s2.n) rfl rfl (by omega) (by omega) ?_)
  have hlo:=ha.cut (Nat.zero_le N) (by rw [dg_len];omega)
  have hhi:=ha.cut (lo:=N) (hi:=s2.n) (by omega) (by rw [dg_len];omega)
  rw [List.drop_zero] at hlo
  rw [List.take_of_length_le (by rw [dg_len];omega),dg_drop] at hhi
  refine c1 (limb_Norm hlo.drew.nt (Nat.le_trans (sz_vl hlo.sm) (by simp;omega))) ?_
  intro s4 w4 e4 h4
  have hhi:=hhi.drew.ext e4
  have e:=e.drew.trans e4
  refine hhi.copy (B:=w.here.w.heap.size) e.size ?_ fun s5 w5 h5 e5 hb5=>rt2 (c:=.slice) (d:=.slice) _ _ (e.trans e5) ⟨?_,h5.at,fun c hc ha=>?_⟩
  ·have:=sz_mono (Nat.div_le_self x (W64^N));rw [dg_len];omega
  ·rw [(vl_drop_div (dg_sm W2 x) N).2,vl_dg W2] at h4
   exact ((h4.ext e5).less (e1.trans e2).size).at
  ·have:=hb5 c hc
   have:=(Ow.from_ h4 c ha).2
   omega
end Go.Proofs.YtjhfalgmgagdhaaGreatDoor.Zg
end

section
namespace Go.Proofs.YtjhfalgmgagdhaaGreatDoor.Zg
def bl (x:Nat):Nat:=(dg 2 x).length
theorem bl_lt (x:Nat):x<2^bl x:=dg_lt_pow (Nat.le_refl _) x
theorem bl_le {x:Nat} (h:0<x):2^(bl x-1)≤x:=pow_le_of_dg (Nat.le_refl _) h
theorem bl_pos {x:Nat} (h:0<x):0<bl x:=by
 have:=(not_congr (dg_length_zero (b:=2) (n:=x) (Nat.le_refl _))).2 (by omega)
 unfold bl;omega
theorem bl_zero:bl 0=0:=(dg_length_zero (b:=2) (Nat.le_refl _)).2 rfl
theorem bl_of {x k:Nat} (h1:2^k≤x) (h2:x<2^(k+1)):bl x=k+1:=by
 have h3:bl x≤k+1:=dg_length_le (Nat.le_refl _) h2
 rcases Nat.lt_or_ge k (bl x) with h|h
 ·omega
 ·have:=Nat.lt_of_lt_of_le (bl_lt x) (Nat.pow_le_pow_right (n:=2) (by decide) h);omega
theorem bl_pow {x k:Nat} (h:x<2^k):bl x≤k:=dg_length_le (Nat.le_refl _) h
theorem bl_shift {x k:Nat} (h:2^k≤x):bl x=bl (x/2^k)+k:=by
 have h0:0<x/2^k:=Nat.div_pos h (Nat.two_pow_pos k)
 have h1:=bl_le h0
 have h2:=bl_lt (x/2^k)
 have h3:=bl_pos h0
 rw [show bl (x/2^k)+k=(bl (x/2^k)-1+k)+1 by omega]
 refine bl_of ?_ ?_
 ·rw [Nat.pow_add]
  exact Nat.le_trans (Nat.mul_le_mul_right _ h1) (Nat.div_mul_le_self x (2^k))
 ·rw [show bl (x/2^k)-1+k+1=bl (x/2^k)+k by omega,Nat.pow_add]
  rw [Nat.div_lt_iff_lt_mul (Nat.two_pow_pos k)] at h2
  exact h2
def tabOk (t:ByteArray):Bool:=Nat.beq t.size 256&&(List.range 256).all fun i=>match t.data[i]? with
 | some v=>if i=0 then Nat.beq v.toNat 0 else Nat.ble 1 v.toNat&&Nat.ble (2^(v.toNat-1)) i&&Nat.blt i (2^v.toNat)
 | none=>false
theorem tab_bl {t:ByteArray} (ht:tabOk t=true) {i:Nat} (hi:i<256):∃h:i<t.size,(t[i]'h).toNat=bl i:=by
 simp only [tabOk,Bool.and_eq_true,List.all_eq_true,List.mem_range] at ht
 have h1:t.size=256:=Nat.eq_of_beq_eq_true ht.1
 have h2:=ht.2 i hi
 have hs:i<t.size:=by omega
 refine ⟨hs,?_⟩
 have hs':i<t.data.size:=hs
 rw [Array.getElem?_eq_getElem hs'] at h2
 simp only at h2
 show (t.data[i]'hs').toNat=_
 split at h2
 ·subst i;rw [Nat.eq_of_beq_eq_true h2,bl_zero]
 ·simp only [Bool.and_eq_true,Nat.ble_eq,Nat.blt_eq] at h2
  obtain ⟨⟨h3,h4⟩,h5⟩:=h2
  rw [show (t.data[i]'hs').toNat=((t.data[i]'hs').toNat-1)+1 by omega] at h5 ⊢
  exact (bl_of h4 h5).symm
theorem bnd_eq {α:Type} {x y:α} {K:α→Prop} (h:x=y) (hK:K y):bnd x K:=by subst h;exact hK
theorem ixs_of {s:ByteArray} {i:Int} {j v:Nat} {K:Int→Prop} (hi:i=j) (h:∃h:j<s.size,(s[j]'h).toNat=v) (hK:K v):ixs s i K:=by
 subst hi
 obtain ⟨h1,h2⟩:=h
 refine ⟨⟨by omega,h1⟩,?_⟩
 simp only [Int.toNat_natCast]
 rw [h2]
 exact hK
theorem bits_Len64 {w:TW} {x:Nat} (hx:x<W64):Ct Pg F.bits_Len64 [.int .u64 x] w none_ [.one (.int .i64)] fun (r:Int) _=>r=bl x:=by
 refine Ct.bits_Len64 ?_
 unfold Sh.bits_Len64
 rw [w_pow] at hx
 refine j2 (fun (x1 n1:Int) w'=>w'=w.here∧∃a m:Nat,x1=a∧n1=m∧a<2^32∧m≤32∧bl x=bl a+m) ?_ ?_
 ·refine cnd_d (fun h=>?_) (fun h=>?_)
  ·exact shrN (x:=x) (n:=32) rfl rfl (by decide) ⟨rfl,x/2^32,32,rfl,rfl,by omega,by omega,bl_shift (by omega)⟩
  ·exact ⟨rfl,x,0,rfl,rfl,by omega,by omega,rfl⟩
 rintro x1 n1 w' ⟨rfl,a,m,rfl,rfl,ha,hm,hb⟩
 refine j2 (fun (x1 n1:Int) w'=>w'=w.here∧∃a m:Nat,x1=a∧n1=m∧a<2^16∧m≤48∧bl x=bl a+m) ?_ ?_
 ·refine cnd_d (fun h=>?_) (fun h=>?_)
  ·exact shrN (x:=a) (n:=16) rfl rfl (by decide) (bnd_wi (by omega) (by omega) ⟨rfl,a/2^16,m+16,rfl,rfl,by omega,by omega,by rw [hb,bl_shift (k:=16) (by omega)];omega⟩)
  ·exact ⟨rfl,a,m,rfl,rfl,by omega,by omega,hb⟩
 rintro x1 n1 w' ⟨rfl,a,m,rfl,rfl,ha,hm,hb⟩
 refine j2 (fun (x1 n1:Int) w'=>w'=w.here∧∃a m:Nat,x1=a∧n1=m∧a<2^8∧m≤56∧bl x=bl a+m) ?_ ?_
 ·refine cnd_d (fun h=>?_) (fun h=>?_)
  ·exact shrN (x:=a) (n:=8) rfl rfl (by decide) (bnd_wi (by omega) (by omega) ⟨rfl,a/2^8,m+8,rfl,rfl,by omega,by omega,by rw [hb,bl_shift (k:=8) (by omega)];omega⟩)
  ·exact ⟨rfl,a,m,rfl,rfl,by omega,by omega,hb⟩
 rintro x1 n1 w' ⟨rfl,a,m,rfl,rfl,ha,hm,hb⟩
 have hw:IntKind.u8.wrap (a:Int)=a:=by simp [IntKind.wrap,IntKind.signed,IntKind.bits];omega
 have:=bl_pow ha
 refine bnd_eq hw (ixs_of rfl (tab_bl (by kernel_rfl) (show a<256 from ha)) (bnd_wi (by omega) (by omega) (bnd_wi (by omega) (by omega) ?_)))
 exact rt1 (c:=.int .i64) _ (Ext.refl _ _) (by omega)
theorem bits_LeadingZeros64 {w:TW} {x:Nat} (hx:x<W64):Ct Pg F.bits_LeadingZeros64 [.int .u64 x] w none_ [.one (.int .i64)] fun (r:Int) _=>r=(64-bl x:Nat):=by
 refine Ct.bits_LeadingZeros64 ?_
 unfold Sh.bits_LeadingZeros64
 refine c1 (bits_Len64 hx) ?_
 rintro r w' e rfl
 have:=bl_pow (k:=64) hx
 exact bnd_wi (by omega) (by omega) (rt1 (c:=.int .i64) _ e (by omega))
end Go.Proofs.YtjhfalgmgagdhaaGreatDoor.Zg
end

section
namespace Go.Proofs.YtjhfalgmgagdhaaGreatDoor.Zg
section
variable {M v1 v0 u d q r:Nat}
theorem kn_dec (hq:q*v1+r=u) (hQ:u*M+d<(v1*M+v0)*M) (hc:M≤q∨M*r+d<q*v0):(u*M+d)/(v1*M+v0)<q:=by
 have hV:0<v1*M+v0:=by
  rcases Nat.eq_zero_or_pos (v1*M+v0) with h|h
  ·rw [h,Nat.zero_mul] at hQ;omega
  ·exact h
 rcases hc with h|h
 ·exact Nat.lt_of_lt_of_le (Nat.div_lt_of_lt_mul hQ) h
 ·refine Nat.div_lt_of_lt_mul ?_
  have e1:u*M=q*v1*M+M*r:=by rw [←hq];grind
  have e2:(v1*M+v0)*q=q*v1*M+q*v0:=by grind
  omega
theorem kn_stop1 (hV:0<v1*M+v0) (hq:q*v1+r=u) (h:q*v0≤M*r+d):q≤(u*M+d)/(v1*M+v0):=by
 rw [Nat.le_div_iff_mul_le hV]
 have e1:u*M=q*v1*M+M*r:=by rw [←hq];grind
 have e2:q*(v1*M+v0)=q*v1*M+q*v0:=by grind
 omega
theorem kn_stop2 (hV:0<v1*M+v0) (hv0:v0<M) (hq:q*v1+r=u) (hr:M≤r) (hqM:q≤M):q≤(u*M+d)/(v1*M+v0):=by
 refine kn_stop1 hV hq ?_
 have h1:q*v0≤M*v0:=Nat.mul_le_mul_right _ hqM
 have h2:M*v0≤M*r:=Nat.mul_le_mul_left _ (by omega)
 omega
theorem kn_init (hd:d<M) (hv1:0<v1):(u*M+d)/(v1*M+v0)≤u/v1:=by
 have hM:0<M:=by omega
 rw [Nat.le_div_iff_mul_le hv1]
 have h1:=Nat.div_mul_le_self (u*M+d) (v1*M+v0)
 generalize (u*M+d)/(v1*M+v0)=Q at*
 have h2:Q*(v1*M+v0)=Q*v1*M+Q*v0:=by grind
 have h3:Q*v1*M<(u+1)*M:=by rw [Nat.add_mul];omega
 have:=Nat.lt_of_mul_lt_mul_right h3
 omega
theorem kn_top (hv0:v0<M) (hM:M≤2*v1) (hu:u<v1*M+v0):u/v1≤M+1:=by
 have h:u<v1*(M+2):=by rw [Nat.mul_add];omega
 have:=Nat.div_lt_of_lt_mul h
 omega
end
theorem bnd_wu_sub {x y:Int} {a b:Nat} {K:Int→Prop} (hx:x=a) (hy:y=b) (hb:b≤W64) (h:K ((a+(W64-b))%W64:Nat)):bnd (wu (x-y)) K:=by
 subst hx hy
 have:wu ((a:Int)-b)=((a+(W64-b))%W64:Nat):=by
  rw [←wu_nat]
  simp only [wu,IntKind.wrap,IntKind.signed,IntKind.bits,w64]
  rw [w64] at hb
  simp
  omega
 unfold bnd
 rw [this];exact h
theorem sub_mod {X d QV R:Nat} (h:X+d=QV+R) (hR:R<W64):((X%W64+d)%W64+(W64-QV%W64))%W64=R:=by
 rw [w64] at*
 omega
theorem kn_all {u L d1 d0 V Q1 Q0 R1 R0:Nat} (h1:4294967296*d1+d0=L) (h2:V*Q1+R1=u*4294967296+d1) (h3:V*Q0+R0=R1*4294967296+d0):u*W64+L=R0+V*(Q1*4294967296+Q0):=by
 rw [Nat.mul_add,←Nat.mul_assoc]
 have e:W64=18446744073709551616:=rfl
 generalize V*Q1=a at*
 generalize V*Q0=b at*
 rw [e]
 omega
theorem knloop {V v1 v0 u d:Nat} (hv1:V/4294967296=v1) (hv0:V%4294967296=v0) (hV:V<W64) (hV2:9223372036854775808≤V) (hu:u<V) (hd:d<4294967296) {w:TW} {C:Int→Int→TW→Prop} {J:Int→TW→Prop} {q r:Nat}
  (hI:(u*4294967296+d)/V≤q∧q≤4294967297∧q*v1+r=u∧r<4294967296)
  (hC:∀q' r':Nat,q'<q→(u*4294967296+d)/V≤q'∧q'≤4294967297∧q'*v1+r'=u∧r'<4294967296→C q' r' w)
  (hJ:J ((u*4294967296+d)/V:Nat) w):
  Jn [.bool] (fun J3=>cond (decide ((q:Int)≥4294967296)) (J3 true w) (bnd (wu ((q:Int)*v0)) fun a=>bnd (wu (4294967296*(r:Int))) fun b=>bnd (wu (b+d)) fun c=>J3 (decide (a>c)) w))
   (fun (x:Bool) w5=>cond x (bnd (wu ((q:Int)-1)) fun a=>bnd (wu ((r:Int)+v1)) fun b=>cond (decide (b≥4294967296)) (J a w5) (C a b w5)) (J q w5)):=by
 obtain ⟨h1,h2,h3,h4⟩:=hI
 have hVe:v1*4294967296+v0=V:=by have:=Nat.div_add_mod V 4294967296;omega
 have hv0':v0<4294967296:=by omega
 have hv1':v1<4294967296:=by rw [w64] at hV;omega
 have hQ:u*4294967296+d<(v1*4294967296+v0)*4294967296:=by rw [hVe];omega
 have hcur:∀q',(u*4294967296+d)/V≤q'→q'≤(u*4294967296+d)/V→q'=(u*4294967296+d)/V:=fun _ a b=>by omega
 have hq0:q*v0≤4294967297*v0:=Nat.mul_le_mul_right _ h2
 refine j1 (fun (x:Bool) w5=>w5=w∧x=decide (4294967296≤q∨4294967296*r+d<q*v0)) ?_ ?_
 ·refine cnd_d (fun h=>⟨rfl,?_⟩) (fun h=>?_)
  ·rw [eq_comm,decide_eq_true_iff];left;omega
  ·have h:q<4294967296:=by omega
   have hq1:q*v0≤4294967295*v0:=Nat.mul_le_mul_right _ (by omega)
   refine bnd_wu' (y:=q*v0) (by simp) (by rw [w64];omega) (bnd_wu' (y:=4294967296*r) (by simp) (by rw [w64];omega) (bnd_wu' (y:=4294967296*r+d) (by simp) (by rw [w64];omega) ⟨rfl,?_⟩))
   rw [Bool.eq_iff_iff,decide_eq_true_iff,decide_eq_true_iff]
   omega
 rintro x w5 ⟨rfl,rfl⟩
 refine cnd_d (fun hc=>?_) (fun hc=>?_)
 ·have hdec:=kn_dec h3 hQ hc
  rw [hVe] at hdec
  have hs2:∀q' r',q'*v1+r'=u→4294967296≤r'→q'≤4294967296→q'≤(u*4294967296+d)/V:=fun q' r' a b c=>by
   have:=kn_stop2 (d:=d) (v0:=v0) (by rw [hVe];omega) hv0' a b c
   rwa [hVe] at this
  generalize (u*4294967296+d)/V=QQ at*
  have hq':(q-1)*v1+(r+v1)=u:=by
   rw [←h3]
   have:q*v1=(q-1)*v1+v1:=by rw [←Nat.succ_mul];congr 1;omega
   omega
  refine bnd_wu' (y:=q-1) (by omega) (by rw [w64];omega) (bnd_wu' (y:=r+v1) (by omega) (by rw [w64];omega) ?_)
  refine cnd_d (fun hr=>?_) (fun hr=>?_)
  ·have hs:=hs2 _ _ hq' (by omega) (by omega)
   rw [hcur (q-1) (by omega) hs]
   exact hJ
  ·exact hC (q-1) (r+v1) (by omega) ⟨by omega,by omega,hq',by omega⟩
 ·have hs:=kn_stop1 (M:=4294967296) (d:=d) (by rw [hVe];omega) h3 (by omega)
  rw [hVe] at hs
  rw [hcur q h1 hs]
  exact hJ
theorem bits_Div64 {w:TW} {hi lo y:Nat} (hlo:lo<W64) (hy:y<W64) (hlt:hi<y):Ct Pg F.bits_Div64 [.int .u64 hi,.int .u64 lo,.int .u64 y] w none_ [.one (.int .u64),.one (.int .u64)] fun (q r:Int) _=>q=((hi*W64+lo)/y:Nat)∧r=((hi*W64+lo)%y:Nat):=by
 refine Ct.bits_Div64 ?_
 unfold Sh.bits_Div64
 refine j0 (fun w'=>w'=w.here) (cnd_f (by simp;omega) rfl) ?_
 rintro _ rfl
 refine j0 (fun w'=>w'=w.here) (cnd_f (by simp;omega) rfl) ?_
 rintro _ rfl
 refine cnd_i (fun h=>?_) (fun h=>?_)
 ·have:hi=0:=by simp at h;omega
  subst this
  rw [Nat.zero_mul,Nat.zero_add]
  exact divNu (x:=lo) (y:=y) rfl rfl hlo (by omega) (remN (x:=lo) (y:=y) rfl rfl (by omega) (rt2 (c:=.int .u64) (d:=.int .u64) _ _ (Ext.refl _ _).drew ⟨rfl,rfl⟩))
 clear h
 refine c1 (bits_LeadingZeros64 hy) ?_
 rintro r w1 e rfl
 have hb1:=bl_le (x:=y) (by omega)
 have hb2:=bl_lt y
 have hb3:=bl_pos (x:=y) (by omega)
 have hb4:=bl_pow (k:=64) hy
 obtain ⟨s,hs⟩:∃s,s=64-bl y:=⟨_,rfl⟩
 rw [←hs]
 have hs64:s<64:=by omega
 have hps:0<2^s:=Nat.two_pow_pos s
 have hss:2^s*2^(64-s)=W64:=by rw [←Nat.pow_add,w_pow];congr 1;omega
 have hV:y*2^s<W64:=by
  rw [w_pow,show (64:Nat)=bl y+s by omega,Nat.pow_add]
  exact Nat.mul_lt_mul_of_pos_right hb2 hps
 have hV2:9223372036854775808≤y*2^s:=by
  rw [show (9223372036854775808:Nat)=2^63 by decide,show (63:Nat)=bl y-1+s by omega,Nat.pow_add]
  exact Nat.mul_le_mul_right _ hb1
 clear hb1 hb2 hb3 hb4 hs
 have hu:hi*2^s+lo/2^(64-s)<y*2^s:=by
  have h1:lo/2^(64-s)<2^s:=Nat.div_lt_of_lt_mul (by rw [Nat.mul_comm,hss];exact hlo)
  have h2:=Nat.mul_le_mul_right (2^s) hlt
  rw [Nat.succ_mul] at h2
  omega
 have hU:(hi*W64+lo)*2^s=(hi*2^s+lo/2^(64-s))*W64+lo*2^s%W64:=by
  have h1:=Nat.div_add_mod lo (2^(64-s))
  have h2:lo*2^s%W64=lo%2^(64-s)*2^s:=by rw [←hss,Nat.mul_comm (2^s),Nat.mul_mod_mul_right]
  rw [h2,←hss]
  grind
 have hUl:lo*2^s%W64<W64:=Nat.mod_lt _ (by decide)
 have hq:(hi*W64+lo)/y=(hi*W64+lo)*2^s/(y*2^s):=(Nat.mul_div_mul_right _ _ hps).symm
 have hr:(hi*W64+lo)%y=(hi*W64+lo)*2^s%(y*2^s)/2^s:=by rw [Nat.mul_mod_mul_right,Nat.mul_div_cancel _ hps]
 rw [hq,hr,hU]
 clear hq hr hU
 have hn7:lo/2^(64-s)<2^s:=Nat.div_lt_of_lt_mul (by rw [Nat.mul_comm,hss];exact hlo)
 have hyW:hi*2^s<W64:=Nat.lt_of_le_of_lt (Nat.mul_le_mul_right _ (Nat.le_of_lt hlt)) hV
 refine bnd_wu' (y:=s) rfl (by rw [w64];omega) ?_
 refine shlN (x:=y) (n:=s) rfl rfl (by omega) ?_
 rw [Nat.mod_eq_of_lt hV]
 refine shrN (x:=y*2^s) (n:=32) rfl rfl (by decide) ?_
 refine bnd_low (x:=y*2^s) (k:=32) rfl (by decide) hV (by decide) ?_
 refine shlN (x:=hi) (n:=s) rfl rfl (by omega) ?_
 rw [Nat.mod_eq_of_lt hyW]
 refine bnd_wu' (y:=64-s) (by omega) (by rw [w64];omega) ?_
 refine shrN (x:=lo) (n:=64-s) rfl rfl (by show _≤64;omega) ?_
 refine bnd_plus (k:=s) rfl rfl hyW (Nat.lt_of_le_of_lt (Nat.div_le_self _ _) hlo) (Nat.dvd_mul_left _ _) hn7 ?_
 refine shlN (x:=lo) (n:=s) rfl rfl (by omega) ?_
 generalize lo*2^s%W64=L at*
 generalize hi*2^s+lo/2^(64-s)=u at*
 generalize y*2^s=V at*
 clear hn7 hyW
 refine shrN (x:=L) (n:=32) rfl rfl (by decide) ?_
 refine bnd_low (x:=L) (k:=32) rfl (by decide) hUl (by decide) ?_
 have e32:(2:Nat)^32=4294967296:=by decide
 rw [e32]
 have hLe:=Nat.div_add_mod L 4294967296
 have hL1:L/4294967296<4294967296:=by rw [w64] at hUl;omega
 have hL0:L%4294967296<4294967296:=Nat.mod_lt _ (by decide)
 generalize L/4294967296=d1 at*
 generalize L%4294967296=d0 at*
 obtain ⟨v1,hv1⟩:∃v1,V/4294967296=v1:=⟨_,rfl⟩
 obtain ⟨v0,hv0⟩:∃v0,V%4294967296=v0:=⟨_,rfl⟩
 rw [hv1,hv0]
 have hv1p:0<v1:=by omega
 have hVe:v1*4294967296+v0=V:=by have:=Nat.div_add_mod V 4294967296;omega
 have init:∀u d:Nat,u<V→d<4294967296→(u*4294967296+d)/V≤u/v1∧u/v1≤4294967297∧u/v1*v1+u%v1=u∧u%v1<4294967296:=fun u d h1 h2=>by
  have a:=kn_init (M:=4294967296) (v1:=v1) (v0:=v0) (u:=u) h2 hv1p
  rw [hVe] at a
  refine ⟨a,kn_top (M:=4294967296) (v1:=v1) (v0:=v0) (u:=u) (by omega) (by omega) (by rw [hVe];exact h1),by rw [Nat.mul_comm];exact Nat.div_add_mod u v1,?_⟩
  have:=Nat.mod_lt u hv1p
  rw [w64] at hV
  omega
 have hrem:∀u,u<V→((u+(W64-u/v1*v1%W64))%W64:Nat)=u%v1:=fun u h=>by
  have h1:=Nat.div_add_mod u v1
  have h2:u/v1*v1=v1*(u/v1):=Nat.mul_comm _ _
  have h3:=Nat.mod_le u v1
  generalize v1*(u/v1)=X at*
  generalize u%v1=Y at*
  rw [h2]
  rw [w64] at*
  omega
 have hdig:∀u d,u<V→d<4294967296→(u*4294967296+d)/V<4294967296:=fun u d h1 h2=>Nat.div_lt_of_lt_mul (by omega)
 have hu64:u<W64:=Nat.lt_trans hu hV
 refine divNu (x:=u) (y:=v1) rfl rfl hu64 (by omega) ?_
 refine bnd_wu (y:=u/v1*v1) (by simp) ?_
 refine bnd_wu_sub (a:=u) (b:=u/v1*v1%W64) rfl rfl (Nat.le_of_lt (Nat.mod_lt _ (by decide))) ?_
 rw [hrem u hu]
 refine j1 (fun (q:Int) w6=>w6=w1∧q=((u*4294967296+d1)/V:Nat)) ?_ ?_
 ·refine lp2 (fun m (q r:Int) w'=>w'=w1∧∃q' r':Nat,q=q'∧r=r'∧m=q'∧(u*4294967296+d1)/V≤q'∧q'≤4294967297∧q'*v1+r'=u∧r'<4294967296) (u/v1) ⟨rfl,u/v1,u%v1,rfl,rfl,rfl,init u d1 hu hL1⟩ ?_
  rintro m q r w' ⟨rfl,q',r',rfl,rfl,rfl,hI⟩
  exact knloop hv1 hv0 hV hV2 hu hL1 hI (fun q'' r'' hlt h=>⟨q'',hlt,rfl,q'',r'',rfl,rfl,rfl,h⟩) ⟨rfl,rfl⟩
 rintro q w6 ⟨rfl,rfl⟩
 have hQ1:=hdig u d1 hu hL1
 have hdm1:=Nat.div_add_mod (u*4294967296+d1) V
 have hR1:=Nat.mod_lt (u*4294967296+d1) (show 0<V by omega)
 obtain ⟨Q1,hq1⟩:∃Q,(u*4294967296+d1)/V=Q:=⟨_,rfl⟩
 obtain ⟨R1,hr1⟩:∃Q,(u*4294967296+d1)%V=Q:=⟨_,rfl⟩
 rw [hq1] at hQ1 hdm1 ⊢
 rw [hr1] at hR1 hdm1
 refine bnd_wu (y:=u*4294967296) (by simp) (bnd_wu (y:=u*4294967296%W64+d1) (by simp) (bnd_wu (y:=V*Q1) (by simp [Int.mul_comm]) ?_))
 refine bnd_wu_sub (a:=(u*4294967296%W64+d1)%W64) (b:=V*Q1%W64) rfl rfl (Nat.le_of_lt (Nat.mod_lt _ (by decide))) ?_
 rw [sub_mod (R:=R1) hdm1.symm (Nat.lt_trans hR1 hV)]
 refine divNu (x:=R1) (y:=v1) rfl rfl (Nat.lt_trans hR1 hV) (by omega) ?_
 refine bnd_wu (y:=R1/v1*v1) (by simp) ?_
 refine bnd_wu_sub (a:=R1) (b:=R1/v1*v1%W64) rfl rfl (Nat.le_of_lt (Nat.mod_lt _ (by decide))) ?_
 rw [hrem R1 hR1]
 refine j1 (fun (q:Int) w'=>w'=w6∧q=((R1*4294967296+d0)/V:Nat)) ?_ ?_
 ·refine lp2 (fun m (r q:Int) w'=>w'=w6∧∃q' r':Nat,q=q'∧r=r'∧m=q'∧(R1*4294967296+d0)/V≤q'∧q'≤4294967297∧q'*v1+r'=R1∧r'<4294967296) (R1/v1) ⟨rfl,R1/v1,R1%v1,rfl,rfl,rfl,init R1 d0 hR1 hL0⟩ ?_
  rintro m r q w' ⟨rfl,q',r',rfl,rfl,rfl,hI⟩
  exact knloop (C:=fun q r w=>_) hv1 hv0 hV hV2 hR1 hL0 hI (fun q'' r'' hlt h=>⟨q'',hlt,rfl,q'',r'',rfl,rfl,rfl,h⟩) ⟨rfl,rfl⟩
 rintro q w' ⟨rfl,rfl⟩
 have hQ0:=hdig R1 d0 hR1 hL0
 have hdm0:=Nat.div_add_mod (R1*4294967296+d0) V
 have hR0:=Nat.mod_lt (R1*4294967296+d0) (show 0<V by omega)
 obtain ⟨Q0,hq0⟩:∃Q,(R1*4294967296+d0)/V=Q:=⟨_,rfl⟩
 obtain ⟨R0,hr0⟩:∃Q,(R1*4294967296+d0)%V=Q:=⟨_,rfl⟩
 rw [hq0] at hQ0 hdm0 ⊢
 rw [hr0] at hR0 hdm0
 refine bnd_wu' (y:=Q1*4294967296) (by simp) (by rw [w64];omega) (bnd_wu' (y:=Q1*4294967296+Q0) (by simp) (by rw [w64];omega) ?_)
 refine bnd_wu (y:=R1*4294967296) (by simp) (bnd_wu (y:=R1*4294967296%W64+d0) (by simp) (bnd_wu (y:=V*Q0) (by simp [Int.mul_comm]) ?_))
 refine bnd_wu_sub (a:=(R1*4294967296%W64+d0)%W64) (b:=V*Q0%W64) rfl rfl (Nat.le_of_lt (Nat.mod_lt _ (by decide))) ?_
 rw [sub_mod (R:=R0) hdm0.symm (Nat.lt_trans hR0 hV)]
 refine shrN (x:=R0) (n:=s) rfl rfl (by show _≤64;omega) ?_
 have hall:u*W64+L=R0+V*(Q1*4294967296+Q0):=kn_all hLe hdm1 hdm0
 rw [hall,Nat.add_mul_div_left _ _ (by omega:0<V),Nat.add_mul_mod_self_left,Nat.div_eq_of_lt hR0,Nat.mod_eq_of_lt hR0,Nat.zero_add]
 exact rt2 (c:=.int .u64) (d:=.int .u64) _ _ e ⟨rfl,rfl⟩
end Go.Proofs.YtjhfalgmgagdhaaGreatDoor.Zg
end

section
namespace Go.Proofs.YtjhfalgmgagdhaaGreatDoor.Zg
open Go.RowKit
theorem limb_DivWord {w:TW} {s:Sl} {x y:Nat} (hs:Nt w s x) (hy:y<W64) (hx:sz x≤1099511627776):Ct Pg F.limb_DivWord [s.v,.int .u64 y] w none_ [.one .slice,.one (.int .u64),.one (.int .i64)] fun (s':Sl) (r e:Int) w'=>On w' w.w.heap.size s' (x/y)∧r=(if y=0 then 0 else x%y:Nat)∧e=(if y=0 then 2 else 0:Nat):=by
 refine Ct.limb_DivWord ?_
 unfold Sh.limb_DivWord
 refine cnd_i (fun h=>?_) (fun h=>?_)
 ·have:y=0:=by simp at h;omega
  subst this
  refine rt3 (c:=.slice) (d:=.int .u64) (e:=.int .i64) Sl.nil 0 2 (Ext.refl _ _) ⟨?_,rfl,rfl⟩
  rw [Nat.div_zero];exact On.nil _ _
 have hy0:y≠0:=by intro h0;subst h0;simp at h
 clear h
 refine tr hs.here fun s2 w2 e ha=>?_
 have la:=ha.len
 rw [dg_len] at la
 refine mk_u64 (N:=sz x) (by omega) (by omega) fun o w4 ho hon e4 hbk=>?_
 refine bnd_wi (by omega) (by omega) ?_
 refine j1 (fun (r:Int) w5=>∃(Q:List Nat) (d:Nat),r=d∧d<y∧y*vl W64 Q+d=x∧Ow w5 w2.w.heap.size o Q∧Ext none_ w2 w5) ?_ ?_
 ·refine lp2 (fun m (r i:Int) w5=>∃(j d:Nat) (Q:List Nat),r=d∧i=j-1∧m=j∧j≤sz x∧d<y∧Q.length=sz x-j∧y*vl W64 Q+d=vl W64 ((dg W64 x).drop j)∧Ow w5 w2.w.heap.size o (List.replicate j 0++Q)∧Ext none_ w2 w5) (sz x) ⟨sz x,0,[],rfl,by omega,rfl,by omega,by omega,by simp,?_,by simpa using ho,e4⟩ ?_
  ·rw [List.drop_of_length_le (by rw [dg_len];exact Nat.le_refl _)];simp [vl_nil]
  rintro m r i w5 ⟨j,d,Q,rfl,rfl,rfl,hj,hd,hQ,hv,ho,e5⟩
  refine cnd_d (fun h0=>?_) (fun h0=>?_)
  ·obtain ⟨j,rfl⟩:∃j,m=j+1:=⟨m-1,by omega⟩
   have hj1:j<(dg W64 x).length:=by rw [dg_len];omega
   refine (ha.ext e5).ix (j:=j) (by omega) hj1 ?_
   have hvl:=ha.lt j
   refine c2 (bits_Div64 hvl hy hd) ?_
   rintro q r w6 e6 ⟨rfl,rfl⟩
   have e5:=e5.trans e6
   have ho:=ho.ext e6
   have hq:(d*W64+(dg W64 x).getD j 0)/y<W64:=by
    refine Nat.div_lt_of_lt_mul ?_
    have:=Nat.mul_le_mul_right W64 hd
    rw [Nat.succ_mul] at this
    exact Nat.lt_of_lt_of_le (Nat.add_lt_add_left hvl _) this
   refine ho.store (j:=j) (by omega) (by simp;omega) hq rfl fun w7 ho7 e7=>?_
   have hset:(List.replicate (j+1) 0++Q).set j ((d*W64+(dg W64 x).getD j 0)/y)=List.replicate j 0++(d*W64+(dg W64 x).getD j 0)/y::Q:=by
    have h1:List.replicate (j+1) 0++Q=List.replicate j 0++0::Q:=by rw [List.replicate_succ'];simp
    rw [h1]
    simp
   rw [hset] at ho7
   refine bnd_wi (by omega) (by omega) ⟨j,by omega,j,_,_,rfl,by omega,rfl,by omega,Nat.mod_lt _ (by omega),by simp [hQ];omega,?_,ho7,e5.own e7 ho.blk_le⟩
   have hdm:=Nat.div_add_mod (d*W64+(dg W64 x).getD j 0) y
   rw [List.drop_eq_getElem_cons hj1,vl_cons,vl_cons,←hv,show (dg W64 x)[j]=(dg W64 x).getD j 0 by simp [hj1]]
   generalize (d*W64+(dg W64 x).getD j 0)/y=q at*
   generalize (d*W64+(dg W64 x).getD j 0)%y=r at*
   grind
  ·have:m=0:=by omega
   subst this
   rw [List.drop_zero,vl_dg W2] at hv
   exact ⟨Q,d,rfl,hd,hv,by simpa using ho,e5⟩
 ·rintro r w5 ⟨Q,d,rfl,hd,hv,ho,e5⟩
  refine trO ho fun s' w7 e7 h7=>rt3 (c:=.slice) (d:=.int .u64) (e:=.int .i64) _ _ _ ((e.trans e5).trans e7) ⟨?_,?_,?_⟩
  ·have:x/y=vl W64 Q:=by rw [←hv,Nat.mul_add_div (by omega),Nat.div_eq_of_lt hd,Nat.add_zero]
   rw [this]
   exact (h7.less e.size).at
  ·rw [if_neg hy0,←hv,Nat.mul_add_mod,Nat.mod_eq_of_lt hd]
  ·rw [if_neg hy0];rfl
def Rs (w:TW) (s:Sl) (xs:List Nat):Prop:=∃ss:List Sl,Rdv w 1 s (ss.map Sl.v)∧ss.length=xs.length∧∀i t,ss[i]?=some t→Nt w t (xs.getD i 0)
theorem Rs.len {w:TW} {s:Sl} {xs:List Nat} (h:Rs w s xs):s.n=xs.length:=by
 obtain ⟨ss,h1,h2,_⟩:=h
 have:=h1.1
 simp at this;omega
theorem Rs.here {w:TW} {s:Sl} {xs:List Nat} (h:Rs w s xs):Rs w.here s xs:=h.imp fun _ h=>⟨h.1,h.2.1,fun i t ht=>(h.2.2 i t ht).here⟩
theorem Rs.ext {w w':TW} {s:Sl} {xs:List Nat} (h:Rs w s xs) (hx:Ext none_ w w'):Rs w' s xs:=h.imp fun _ h=>⟨h.1.ext hx fun _ _ h=>h,h.2.1,fun i t ht=>(h.2.2 i t ht).ext hx⟩
theorem Rs.idx {w:TW} {s:Sl} {xs:List Nat} (h:Rs w s xs) {i:Int} {j:Nat} (hi:i=j) (hj:j<xs.length) {K:Sl→Prop} (hK:∀t,Nt w t (xs.getD j 0)→K t):ixa s i 1 (fun a=>ldc .slice w a K):=by
 subst hi
 have hl:=h.len
 obtain ⟨ss,⟨_,_,_,h4⟩,h5,h6⟩:=h
 have hjs:j<ss.length:=by omega
 obtain ⟨b,o,hp,_,hc⟩:=h4 (fun e=>by have:=congrArg List.length e;simp at this;subst this;simp at hjs)
 refine ⟨⟨b,o,none⟩,hp,by omega,by omega,ss[j],?_,hK _ (h6 j _ (by simp [hjs]))⟩
 rw [Int.toNat_natCast,Nat.mul_one,Addr.add_mk]
 exact hc j _ (by simp [hjs];rfl)
theorem Rs.idxE {w w':TW} {s:Sl} {xs:List Nat} (h:Rs w s xs) (hx:Ext none_ w w') {i:Int} {j:Nat} (hi:i=j) (hj:j<xs.length) {K:Sl→Prop} (hK:∀t,Nt w t (xs.getD j 0)→K t):ixa s i 1 (fun a=>ldc .slice w' a K):=by
 subst hi
 have hl:=h.len
 obtain ⟨ss,h0,h5,h6⟩:=h
 have h4:=(h0.ext hx fun _ _ h=>h).2.2.2
 have hjs:j<ss.length:=by omega
 obtain ⟨b,o,hp,_,hc⟩:=h4 (fun e=>by have:=congrArg List.length e;simp at this;subst this;simp at hjs)
 refine ⟨⟨b,o,none⟩,hp,by omega,by omega,ss[j],?_,hK _ (h6 j _ (by simp [hjs]))⟩
 rw [Int.toNat_natCast,Nat.mul_one,Addr.add_mk]
 exact hc j _ (by simp [hjs];rfl)
theorem wi_mul {a b:Nat} (h:a*b≤9223372036854775807):wi ((a:Int)*(b:Int))=(a*b:Nat):=by
 rw [←Int.natCast_mul]
 generalize a*b=c at*
 exact wi_id (by omega) (by omega)
theorem pow_w (r i:Nat):(W64^r)^i=W64^(r*i):=(Nat.pow_mul _ _ _).symm
theorem vl_take_le {r n:Nat} {xs:List Nat} (h:∀t,t<xs.length→xs.getD t 0*W64^(r*t)<W64^n):∀i,i≤xs.length→vl (W64^r) (xs.take i)≤i*W64^n
 | 0,_=>by simp [vl_nil]
 | i+1,hi=>by
  have:=vl_take_le h i (by omega)
  rw [vl_take_getD,pow_w,Nat.succ_mul,Nat.mul_comm (W64^_)]
  have:=h i hi
  omega
theorem limb_Join {w:TW} {s:Sl} {xs:List Nat} {k:Int} (hs:Rs w s xs) (hn:xs.length≤1048576) (hx:∀t,sz (xs.getD t 0)≤549755813888):Ct Pg F.limb_Join [.int .i64 k,s.v] w none_ [.one .slice] fun (s':Sl) w'=>On w' w.w.heap.size s' (vl (W64^min k.toNat 16384) xs):=by
 refine Ct.limb_Join ?_
 unfold Sh.limb_Join
 refine c1 (limb_within (by decide)) ?_
 rintro r w1 e1 rfl
 have hs:=hs.here.ext e1
 have hl:=hs.len
 have hr:min k.toNat (16384:Int).toNat≤16384:=by omega
 rw [show (16384:Int).toNat=16384 by rfl] at hr ⊢
 generalize min k.toNat 16384=r at*
 have hri:∀i,i<xs.length→r*i≤16384*1048576:=fun i hi=>Nat.mul_le_mul hr (by omega)
 refine j1 (fun (n:Int) w2=>∃n0:Nat,n=n0∧n0≤1099511627770∧(∀t,t<xs.length→0<xs.getD t 0→r*t+sz (xs.getD t 0)≤n0)∧Ext none_ w1 w2) ?_ ?_
 ·refine lp2 (fun m (n i:Int) w2=>∃n0 j:Nat,n=n0∧i=j∧m=xs.length-j∧j≤xs.length∧n0≤1099511627770∧(∀t,t<j→0<xs.getD t 0→r*t+sz (xs.getD t 0)≤n0)∧Ext none_ w1 w2) xs.length ⟨0,0,rfl,rfl,rfl,by omega,by omega,fun t h=>by omega,Ext.refl _ _⟩ ?_
  rintro m n i w2 ⟨n0,j,rfl,rfl,rfl,hj,hn0,hmax,e2⟩
  refine cnd_d (fun h0=>?_) (fun h0=>?_)
  ·have hj1:j<xs.length:=by omega
   refine (hs.ext e2).idx rfl hj1 fun t ht=>?_
   obtain ⟨l,hl1,hl2⟩:=ht
   refine c1 (api_Nat_Len hl1) ?_
   rintro r1 w3 e3 rfl
   rw [hl2]
   have hxj:=hx j
   have hrj:=hri j hj1
   refine j1 (fun (n:Int) w4=>w4=w3∧∃n1:Nat,n=n1∧n1≤1099511627770∧n0≤n1∧(0<xs.getD j 0→r*j+sz (xs.getD j 0)≤n1)) ?_ ?_
   ·refine cnd_d (fun h1=>?_) (fun h1=>?_)
    ·refine bnd_eq (y:=((r*j:Nat):Int)) (wi_mul (by omega)) ?_
     refine bnd_wi (by omega) (by omega) (bnd_i ⟨rfl,if n0<r*j+sz (xs.getD j 0) then r*j+sz (xs.getD j 0) else n0,?_,?_,?_,?_⟩)
     ·split<;>split<;>omega
     ·split<;>omega
     ·split<;>omega
     ·intro;split<;>omega
    ·refine ⟨rfl,n0,rfl,hn0,Nat.le_refl _,fun h2=>?_⟩
     have:=(not_congr (sz_zero (x:=xs.getD j 0))).2 (by omega)
     omega
   rintro n w4 ⟨rfl,n1,rfl,h1,h2,h3⟩
   refine bnd_wi (by omega) (by omega) ⟨xs.length-(j+1),by omega,n1,j+1,rfl,by omega,rfl,hj1,h1,fun t ht hpos=>?_,e2.trans e3⟩
   rcases Nat.lt_or_ge t j with h|h
   ·exact Nat.le_trans (hmax t h hpos) h2
   ·have:t=j:=by omega
    rw [this] at hpos ⊢;exact h3 hpos
  ·have:j=xs.length:=by omega
   subst this
   exact ⟨n0,rfl,hn0,hmax,e2⟩
 rintro n w2 ⟨n0,rfl,hn0,hmax,e2⟩
 have hs:=hs.ext e2
 have e:=e1.trans e2
 refine bnd_wi (by omega) (by omega) (mk_u64 (N:=n0+2) (by omega) (by omega) fun o w3 ho hon e3 hbk=>?_)
 have hterm:∀t,t<xs.length→xs.getD t 0*W64^(r*t)<W64^n0:=fun t ht=>by
  rcases Nat.eq_zero_or_pos (xs.getD t 0) with h|h
  ·rw [h,Nat.zero_mul];exact Nat.pow_pos (by decide)
  ·refine Nat.lt_of_lt_of_le (Nat.mul_lt_mul_of_pos_right (lt_sz _) (Nat.pow_pos (by decide))) ?_
   rw [←Nat.pow_add]
   exact Nat.pow_le_pow_right (by decide) (by have:=hmax t ht h;omega)
 have htot:∀i,i≤xs.length→vl (W64^r) (xs.take i)<W64^(n0+1):=fun i hi=>by
  refine Nat.lt_of_le_of_lt (vl_take_le hterm i hi) ?_
  rw [Nat.pow_succ,Nat.mul_comm]
  exact Nat.mul_lt_mul_of_pos_left (by rw [w64];omega) (Nat.pow_pos (by decide))
 refine j0 (fun w5=>∃P:List Nat,vl W64 P=vl (W64^r) xs∧Ow w5 w2.w.heap.size o P∧Ext none_ w2 w5) ?_ ?_
 ·refine lp1 (fun m (i:Int) w5=>∃(j:Nat) (P:List Nat),i=j∧m=xs.length-j∧j≤xs.length∧P.length=n0+2∧vl W64 P=vl (W64^r) (xs.take j)∧Ow w5 w2.w.heap.size o P∧Ext none_ w2 w5) xs.length ⟨0,_,rfl,by omega,by omega,by simp,by rw [vl_zeros];simp [vl_nil],ho,e3⟩ ?_
  rintro m i w5 ⟨j,P,rfl,rfl,hj,hP,hv,ho,e5⟩
  refine cnd_d (fun h0=>?_) (fun h0=>?_)
  ·have hj1:j<xs.length:=by omega
   have hrj:=hri j hj1
   have hxj:=hx j
   refine hs.idxE e5 rfl hj1 fun t ht=>?_
   obtain ⟨tl,ht,htl⟩:=ht
   refine c1 (limb_trim (ht.ext e5)) ?_
   rintro t' w6 e6 rfl
   have ht:=ht.trim
   rw [htl] at ht ⊢
   generalize ht':t.cut 0 (sz (xs.getD j 0)) 1=t' at*
   have e5:=e5.trans e6
   have ho:=ho.ext e6
   have lt':=ht.len
   rw [dg_len] at lt'
   clear e6
   have hstep:=vl_take_getD (W64^r) xs j
   rw [pow_w] at hstep
   have htj:=htot (j+1) hj1
   have hmaxj:=hmax j hj1
   refine j0 (fun w7=>∃P:List Nat,P.length=n0+2∧vl W64 P=vl (W64^r) (xs.take (j+1))∧Ow w7 w2.w.heap.size o P∧Ext none_ w2 w7) ?_ ?_
   ·refine lp2 (fun m (c i:Int) w7=>∃(p d:Nat) (P:List Nat),c=d∧i=p∧m=n0+2-p∧d≤1∧P.length=n0+2∧vl W64 P+W64^(r*j+p)*d=vl (W64^r) (xs.take j)+vl W64 ((dg W64 (xs.getD j 0)).take p)*W64^(r*j)∧Ow w7 w2.w.heap.size o P∧Ext none_ w2 w7) (n0+2) ⟨0,0,P,rfl,rfl,rfl,by omega,hP,by simp [vl_nil,hv],ho,e5⟩ ?_
    rintro m c i w7 ⟨p,d,P,rfl,rfl,rfl,hd,hP,hv,ho,e5⟩
    refine j1 (fun (b:Bool) w8=>w8=w7∧b=decide (p<sz (xs.getD j 0)∨0<d)) ?_ ?_
    ·refine cnd_d (fun h1=>⟨rfl,?_⟩) (fun h1=>⟨rfl,?_⟩)
     ·rw [eq_comm,decide_eq_true_iff];left;omega
     ·rw [Bool.eq_iff_iff,decide_eq_true_iff,decide_eq_true_iff];omega
    rintro b w8 ⟨rfl,rfl⟩
    refine cnd_d (fun h1=>?_) (fun h1=>?_)
    ·have hp:r*j+p<n0+1:=by
      rcases Nat.lt_or_ge p (sz (xs.getD j 0)) with h|h
      ·have:=hmaxj (by have:=(not_congr (sz_zero (x:=xs.getD j 0))).1 (by omega);omega)
       omega
      ·have hd1:d=1:=by omega
       subst hd1
       rw [vl_take_all (l:=dg W64 (xs.getD j 0)) (by rw [dg_len];exact h),vl_dg W2,Nat.mul_comm (xs.getD j 0),←hstep] at hv
       refine (Nat.pow_lt_pow_iff_right (a:=W64) (by decide)).1 ?_
       omega
     refine (ht.ext e5).at0 rfl ?_
     have hy:=ht.lt p
     have hgo:=vl_take_getD W64 (dg W64 (xs.getD j 0)) p
     generalize (dg W64 (xs.getD j 0)).getD p 0=y at*
     have hrjw:wi ((r:Int)*(j:Int))=(r*j:Nat):=wi_mul (by omega)
     refine bnd_eq hrjw (bnd_wi (by omega) (by omega) (bnd_eq hrjw (bnd_wi (by omega) (by omega) ?_)))
     have hpP:r*j+p<P.length:=by omega
     have hV1:=ho.rd.lt (r*j+p)
     refine ho.rd.ix (j:=r*j+p) (by omega) hpP ?_
     have hset:=vl_set (b:=W64) hpP
     rw [show P[r*j+p]=P.getD (r*j+p) 0 by simp [hpP]] at hset
     generalize P.getD (r*j+p) 0=V at*
     refine ⟨V,y,d,rfl,rfl,rfl,hd,?_⟩
     refine ho.store (j:=r*j+p) (by omega) hpP (Nat.mod_lt _ (by decide)) rfl fun w9 ho9 e9=>?_
     refine bnd_wi (by omega) (by omega) ⟨n0+2-(p+1),by omega,p+1,_,_,rfl,by omega,rfl,by omega,by simp [hP],?_,ho9,e5.own e9 ho.blk_le⟩
     ·have:=hset ((V+y+d)%18446744073709551616)
      have hdm:=Nat.mod_add_div (V+y+d) 18446744073709551616
      generalize (V+y+d)%18446744073709551616=s1 at*
      generalize (V+y+d)/18446744073709551616=c1 at*
      rw [hgo,←Nat.add_assoc,Nat.pow_succ]
      have e1:W64^(r*j+p)=W64^(r*j)*W64^p:=Nat.pow_add _ _ _
      have e2:W64^(r*j+p)*s1+W64^(r*j+p)*W64*c1=W64^(r*j+p)*(V+y+d):=by rw [←hdm];grind
      grind
    ·have hd0:d=0:=by omega
     subst hd0
     refine ⟨P,hP,?_,ho,e5⟩
     rw [vl_take_all (l:=dg W64 (xs.getD j 0)) (by rw [dg_len];omega),vl_dg W2,Nat.mul_comm (xs.getD j 0),←hstep] at hv
     simpa using hv
   ·rintro w7 ⟨P,hP,hv,ho,e7⟩
    exact bnd_wi (by omega) (by omega) ⟨xs.length-(j+1),by omega,j+1,P,by omega,rfl,hj1,hP,hv,ho,e7⟩
  ·have:j=xs.length:=by omega
   subst this
   rw [List.take_of_length_le (Nat.le_refl _)] at hv
   exact ⟨P,hv,ho,e5⟩
 ·rintro w5 ⟨P,hv,ho,e5⟩
  refine trO ho fun s' w7 e7 h7=>rt1 (c:=.slice) _ ((e.trans e5).trans e7) ?_
  rw [hv] at h7
  exact (h7.less e.size).at
end Go.Proofs.YtjhfalgmgagdhaaGreatDoor.Zg
end

section
namespace Go.Proofs.YtjhfalgmgagdhaaGreatDoor.Zg
open Go.RowKit
theorem nw_rs {w:TW} {e:TypeId} {ss:List Sl} {xs:List Nat} {K:Nat→TW→Prop} (k:Nat) (hk:ss.length=k) (hl:ss.length=xs.length) (hn:k≤1099511627776) (h:∀i t,ss[i]?=some t→Nt w t (xs.getD i 0)) (hK:∀b w',Rs w' ⟨some ⟨b,0,none⟩,k,k⟩ xs→Ext none_ w w'→K b w'):nwb w (ss.map Sl.v) e K:=by
 subst hk
 intro b w' hw
 refine hK b w' ⟨ss,⟨by simp,Nat.le_refl _,by simp only [maxLen];omega,fun _=>⟨b,0,rfl,fun hV=>?_,fun j v hj=>?_⟩⟩,hl,fun i t ht=>(h i t ht).ext (hw.ext _)⟩ (hw.ext _)
 ·rw [hw.V] at hV
  have:=w.lt _ hV
  have:=hw.at_
  omega
 ·rw [cell_of_row w'.w b (0+j) _ e (0,0) hw.heap]
  simpa using hj
theorem nw_u64s {w:TW} {l:List Nat} {K:Nat→TW→Prop} (k:Nat) (hk:l.length=k) (hs:Sm W64 l) (hn:k≤1099511627776) (hK:∀b w',Ow w' w.w.heap.size ⟨some ⟨b,0,none⟩,k,k⟩ l→Ext none_ w w'→K b w'):nwb w (l.map U) T.uint64 K:=by
 subst hk
 intro b w' hw
 refine hK b w' ⟨⟨⟨by simp,.inr ⟨b,l.length,(l.map U).toArray,rfl,by have:=hw.at_;omega,hw.heap,Nat.le_refl _,by simp only [maxLen];omega,by simp,?_⟩⟩,fun c hc hV=>?_⟩,hs⟩ (hw.ext _)
 ·rw [List.take_of_length_le (by simp)]
 ·simp [Sl.blk] at hc
  rw [hw.V] at hV
  have:=w.lt _ hV
  have:=hw.at_
  omega
theorem mk_cap {w:TW} {l c:Int} {n m:Nat} {K:Sl→TW→Prop} (hl:l=n) (hc:c=m) (hnm:n≤m) (hm:m≤17592186044416) (h:∀f w',Ow w' w.w.heap.size f (List.replicate m 0)→f.n=m→f.c=m→Ext none_ w w'→f.blk=some w.w.heap.size→K (f.cut 0 n 1) w'):mks w l c T.uint64 8 [.int .u64 0] K:=by
 subst hl hc
 obtain ⟨_,_,h3,h4,h5⟩:=mk_u64 (w:=w) (K:=fun f w'=>Ow w' w.w.heap.size f (List.replicate m 0)∧f.n=m∧Ext none_ w w'∧f.blk=some w.w.heap.size) rfl hm fun s w' a b c d=>⟨a,b,c,d⟩
 refine ⟨by omega,by omega,h3,h4,fun b w' hw=>?_⟩
 obtain ⟨a1,a2,a3,a4⟩:=h5 b w' hw
 have:=h _ w' a1 a2 (by simp) a3 a4
 simpa [Sl.cut,Addr.add_mk] using this
theorem limb_Sum {w:TW} {s:Sl} {xs:List Nat} (hs:Rs w s xs) (hn:xs.length≤1048576) (hx:∀t,sz (xs.getD t 0)≤549755813888):Ct Pg F.limb_Sum [s.v] w none_ [.one .slice] fun (s':Sl) w'=>On w' w.w.heap.size s' xs.sum:=by
 refine Ct.limb_Sum ?_
 unfold Sh.limb_Sum
 refine c1 (limb_Join hs.here hn hx) ?_
 intro s' w' e h
 have e1:∀l:List Nat,vl 1 l=l.sum:=fun l=>by
  induction l with
  | nil=>rfl
  | cons x l ih=>simp [vl_cons,ih]
 have h:=h.at (k:=w.B)
 rw [show min (0:Int).toNat 16384=0 by rfl,Nat.pow_zero,e1] at h
 exact rt1 (c:=.slice) _ e h
theorem Rd.take {w:TW} {s:Sl} {l:List Nat} (h:Rd w s l) (k:Nat):Rd w (s.cut 0 (min k s.n) 1) (l.take k):=by
 have hl:=h.len
 have:=h.cut (Nat.zero_le (min k s.n)) (by omega)
 rw [List.drop_zero] at this
 rwa [show l.take k=l.take (min k s.n) by rw [hl,←List.take_take,List.take_of_length_le (Nat.le_refl l.length)]]
theorem keep_Cut {w:TW} {s:Sl} {l:List Nat} {n:Nat} (h:Rd w s l):Ct Pg F.zigguratkeep_Cut [s.v,.int .i64 n] w none_ [.one .slice] fun (s':Sl) _=>s'=s.cut 0 (min n s.n) 1:=by
 refine Ct.zigguratkeep_Cut ?_
 unfold Sh.zigguratkeep_Cut
 have hc:=h.cap
 have hl:=h.len
 refine bnd_i (slc_of (l:=0) (h:=min n s.n) rfl ?_ (Nat.zero_le _) (by omega) ?_)
 ·split<;>omega
 ·exact rt1 (c:=.slice) _ (Ext.refl _ _) rfl
theorem keep_Within {w:TW} {v n:Int} (hn:0<n) (hn2:n≤4611686018427387904):Ct Pg F.zigguratkeep_Within [.int .i64 v,.int .i64 n] w none_ [.one (.int .i64)] fun (r:Int) _=>0≤r∧r<n:=by
 refine Ct.zigguratkeep_Within ?_
 unfold Sh.zigguratkeep_Within
 refine cnd_d (fun h=>by omega) (fun _=>⟨by omega,?_⟩)
 have h1:=Int.tmod_lt_of_pos v hn
 have h2:-n<v.tmod n:=by
  have:=Int.tmod_lt_of_pos (-v) hn
  rw [Int.neg_tmod] at this
  omega
 generalize v.tmod n=r at*
 refine j1 (fun (r:Int) w'=>w'=w.here∧0≤r∧r<n) ?_ ?_
 ·refine cnd_d (fun h=>?_) (fun h=>?_)
  ·exact bnd_wi (by omega) (by omega) ⟨rfl,by omega,by omega⟩
  ·exact ⟨rfl,by omega,by omega⟩
 rintro r w' ⟨rfl,h⟩
 exact rt1 (c:=.int .i64) _ (Ext.refl _ _) h
theorem keep_Same {w:TW} {s t:Sl} {l:List Nat} (hs:Rd w s l) (ht:Rd w t l):Ct Pg F.zigguratkeep_Same [s.v,t.v] w none_ [.one .bool] fun (r:Bool) _=>r=true:=by
 refine Ct.zigguratkeep_Same ?_
 unfold Sh.zigguratkeep_Same
 have h1:=hs.len
 have h2:=ht.len
 have hc:=hs.le
 refine cnd_f (by simp;omega) ?_
 refine j0 (fun w'=>Ext none_ w.here w') ?_ fun w' e=>rt1 (c:=.bool) _ e rfl
 refine lp1 (fun m (i:Int) w'=>∃j:Nat,i=j∧m=l.length-j∧j≤l.length∧Ext none_ w.here w') l.length ⟨0,rfl,by omega,by omega,Ext.refl _ _⟩ ?_
 rintro m i w' ⟨j,rfl,rfl,hj,e⟩
 refine cnd_d (fun h=>?_) (fun _=>e)
 refine (hs.here.ext e).drew.ix rfl (by omega) ((ht.here.ext e).drew.ix rfl (by omega) (cnd_f (by simp) ?_))
 exact bnd_wi (by omega) (by omega) ⟨l.length-(j+1),by omega,j+1,by omega,rfl,by omega,e.drew⟩
end Go.Proofs.YtjhfalgmgagdhaaGreatDoor.Zg
end
