/- A part of the proofs of this seat's laws. -/
import Derived.Test.YtpbimnlggalnfaaGreatDoorGQ
import Derived.Test.YtpbimnlggalnfaaGreatDoorGP1
import Derived.Test.YtpbimnlggalnfaaGreatDoorGP3
import Derived.Deep.Fields
set_option linter.unusedVariables false
set_option linter.unusedSimpArgs false
set_option linter.unnecessarySimpa false
namespace Go.Proofs.YtpbimnlggalnfaaGreatDoor.Zg
open Go.RowKit
section
variable {w w':TW} {t:Nat} {a b m n:Int} {tab:List Int} {X:Nat→Prop}
structure Tn (w:TW) (t:Nat) (m a b:Int) (tab:List Int):Prop where
 at_:w.w.heap[t]?=some (.cells ((m::a::b::tab).map (Value.int .i64)).toArray T.dj (0,0))
 V:¬w.V t
theorem Tn.lt(h:Tn w t m a b tab):t<w.w.heap.size:=(Array.getElem?_eq_some_iff.1 h.at_).1
theorem Tn.here(h:Tn w t m a b tab):Tn w.here t m a b tab:=⟨h.at_,h.V⟩
theorem Tn.at{k:Nat}(h:Tn w t m a b tab):Tn (w.at k) t m a b tab:=⟨h.at_,h.V⟩
theorem Tn.extX(h:Tn w t m a b tab)(hx:Ext X w w')(hX:¬X t):Tn w' t m a b tab:=
 ⟨(hx.block t h.lt hX (.inr h.V)).trans h.at_,λhV=>(hx.new t hV).elim h.V λh'=>by have:=h.lt;omega⟩
theorem Tn.ext(h:Tn w t m a b tab)(hx:Ext aa w w'):Tn w' t m a b tab:=h.extX hx λh=>h
theorem Tn.cell(h:Tn w t m a b tab)(i:Nat):w.w.cell? ⟨t,i,none⟩=((m::a::b::tab)[i]?).map (Value.int .i64):=by
 rw [cell_of_row w.w t i _ T.dj (0,0) h.at_,←List.getElem?_map];exact List.getElem?_toArray ..
theorem Tn.put0(h:Tn w t m a b tab)(x:Int){K:TW→Prop}(hK:∀w',Tn w' t x a b tab→Ext (λk=>k=t) w w'→K w'):stc w ⟨t,0,none⟩ (.int .i64 x) K:=by
 refine⟨⟨_,(h.cell 0).trans rfl⟩,by simp [World.frozen?,h.at_],h.V,hK _ ⟨?_,h.V⟩ ⟨rfl,rfl,rfl,by simp [TW.set,World.setCell],rfl,λ_ h=>h,λ_ h=>.inl h,λk _ hX _=>Below.heap_setCell w.w _ _ k hX,λk _=>jY _ _ _ _⟩⟩;simp [TW.set,World.setCell,Array.getElem?_modify,h.at_,Array.setIfInBounds]
theorem Rd.extN{s:Sl}{l:List Nat}(h:Rd w s l)(hx:Ext X w w')(hX:l≠[]→∀b,s.blk=some b→¬X b):Rd w' s l:=by
 rcases List.eq_nil_or_concat l with h0|⟨_,_,h0⟩
 ·subst h0;exact⟨⟨h.rv.1,h.rv.2.1,h.rv.2.2.1,λh=>absurd rfl h⟩,Sm.nil _⟩
 ·exact h.extX hx (hX (by rw [h0];simp))
theorem yh(h:Tn w t m a b tab):Ct Pg F.eG [.pointer (some ⟨t,0,none⟩)] w aa [.one (.int .i64)] λ(r:Int) _=>r=m:=by
 refine Ct.eG ?_;unfold Sh.eG;exact ah ⟨m,(h.here.cell 0).trans rfl,rt1 (c:=.int .i64) _ (Ext.refl _ _) rfl⟩
theorem jw(h:Tn w t m a b tab):Ct Pg F.aS [.pointer (some ⟨t,0,none⟩),.int .i64 n] w (λk=>k=t) [.one (.int .i64)] λ(r:Int) w'=>r=(if 0<n then wi (m+n) else m)∧Tn w' t (if 0<n then wi (m+n) else m) a b tab:=by
 refine Ct.aS ?_;unfold Sh.aS;refine j0 (λw'=>Tn w' t (if 0<n then wi (m+n) else m) a b tab∧Ext (λk=>k=t) w.here w') ?_ ?_
 ·refine ac (λh0=>?_) (λh0=>?_)
  ·refine ah ⟨m,(h.here.cell 0).trans rfl,fV (ah (h.here.put0 _ λw' h' e'=>⟨?_,e'⟩))⟩;rw [if_pos h0];exact h'
  ·rw [if_neg h0];exact⟨h.here,Ext.refl _ _⟩
 rintro w' ⟨h',e⟩;exact ah ⟨_,(h'.cell 0).trans rfl,rt1 (c:=.int .i64) _ e ⟨rfl,h'.at⟩⟩
theorem table_within{l:Int}(hlm:l≤m):Ct Pg F.bn [.int .i64 n,.int .i64 l,.int .i64 m] w aa [.one (.int .i64)] λ(r:Int) _=>l≤r∧r≤m:=by
 refine Ct.bn ?_;unfold Sh.bn;refine fV (fV (rt1 (c:=.int .i64) _ (Ext.refl _ _) ?_));constructor<;>(split<;>split<;>omega)
end
structure En (w:TW) (p:Option Addr) (e t:Nat):Prop where
 is:p=some ⟨e,0,none⟩
 cell:w.w.cell? ⟨e,0,none⟩=some (.pointer (some ⟨t,0,none⟩))
 V:¬w.V e
theorem rS{w:TW}{p:Option Addr}{e t:Nat}{m a0 b0:Int}{tab:List Int}{a b:Sl}{la lb:List Nat}(he:En w p e t)(hm:Tn w t m a0 b0 tab)(ha:Rd w a la)(hb:Rd w b lb)(hat:la≠[]→a.blk≠some t)(hbt:lb≠[]→b.blk≠some t)(hla:la.length≤1048576)(hlb:lb.length≤1048576):Ct Pg F.cG [.pointer p,a.v,b.v] w (λk=>k=t) [.one .slice] λ(s':Sl) w'=>On w' w.w.heap.size s' (vl W64 la*vl W64 lb)∧Tn w' t (if (0:Int)<(la.length*lb.length:Nat) then wi (m+(la.length*lb.length:Nat)) else m) a0 b0 tab:=by
 refine Ct.cG ?_;unfold Sh.cG;have na:=ha.len;have nb:=hb.len;have hprod:la.length*lb.length≤1048576*1048576:=Nat.mul_le_mul hla hlb;rw [he.is];refine ah ⟨some ⟨t,0,none⟩,he.cell,ah ?_⟩;refine ag (y:=((la.length*lb.length:Nat):Int)) (by rw [na,nb];exact mD om) ?_;refine gW (jw hm.here) (λb hb=>by subst hb;exact hm.V) ?_;intro r w1 x1 hpost;obtain⟨-,hm1⟩:=hpost;have ha1:=ha.here.extN x1 λhl c hc h=>hat hl (by rw [hc,h])
 have hb1:=hb.here.extN x1 λhl c hc h=>hbt hl (by rw [hc,h])
 refine ab om om (bW (N:=la.length+lb.length) om om λo w2 ho _ e2 _=>?_);refine j0 (λw3=>∃P,Ow w3 w1.w.heap.size o P∧vl W64 P=vl W64 la*vl W64 lb∧Ext aa w1 w3) ?_ ?_
 ·refine lp1 (λm (i:Int) w3=>∃(j:Nat) (P:List Nat),i=j∧m=la.length-j∧j≤la.length∧P.length=la.length+lb.length∧Ow w3 w1.w.heap.size o P∧vl W64 P=vl W64 (la.take j)*vl W64 lb∧(∀k,j+lb.length≤k→P.getD k 0=0)∧Ext aa w1 w3) la.length ⟨0,_,rfl,om,om,smp,ho,by rw [jP];simp [gw],λk _=>by simp [List.getElem?_replicate];split<;>rfl,e2⟩ ?_;rintro m i w3 ⟨j,P,rfl,rfl,hj,hP,ho,hv,hz,e3⟩;refine ac (λh=>?_) (λh=>?_)
  ·have hva:=ha.lt j;have hgo:=aj W64 la j;have hj1:j<la.length:=om;refine (ha1.ext e3).ix rfl hj1 ?_;generalize la.getD j 0=v at*;refine j1 (λ(c:Int) w4=>∃(P:List Nat) (d:Nat),c=d∧d<W64∧P.length=la.length+lb.length∧Ow w4 w1.w.heap.size o P∧vl W64 P+W64^(j+lb.length)*d=vl W64 (la.take (j+1))*vl W64 lb∧(∀k,j+lb.length≤k→P.getD k 0=0)∧Ext aa w1 w4) ?_ ?_
   ·refine lp2 (λm (c i:Int) w4=>∃(q d:Nat) (P:List Nat),c=d∧i=q∧m=lb.length-q∧q≤lb.length∧d<W64∧P.length=la.length+lb.length∧Ow w4 w1.w.heap.size o P∧vl W64 P+W64^(j+q)*d=vl W64 (la.take j)*vl W64 lb+W64^j*vl W64 (lb.take q)*v∧(∀k,j+lb.length≤k→P.getD k 0=0)∧Ext aa w1 w4) lb.length ⟨0,0,P,rfl,rfl,om,om,dcd,hP,ho,by rw [hv];simp [gw],hz,e3⟩ ?_;clear ho hv hz e3 hP P;rintro m c i w4 ⟨q,d,P,rfl,rfl,rfl,hq,hd,hP,ho,hv,hz,e4⟩;refine ac (λh1=>?_) (λh1=>?_)
    ·have hvb:=hb.lt q;have hgb:=aj W64 lb q;have hjq:j+q<P.length:=om;refine (hb1.ext e4).ix rfl om ?_;generalize lb.getD q 0=bj at*;refine c2 (bits_Mul64 hva hvb) ?_;rintro hi lo w5 e5 ⟨rfl,rfl⟩;have ho:=ho.ext e5;have e5:=e4.trans e5;have hm:=Nat.div_add_mod (v*bj) W64;have hV1:=ho.rd.lt (j+q);have hset:=lu (b:=W64) hjq;rw [show P[j+q]=P.getD (j+q) 0 by simp [hjq]] at hset
     have hlt:v*bj+d+P.getD (j+q) 0<W64*W64:=by
      have:v*bj≤18446744073709551615*18446744073709551615:=Nat.mul_le_mul om om;rw [w64] at hd ⊢;omega
     generalize hH:v*bj/W64=H at*;generalize hL:v*bj%W64=L at*;have hL1:L<W64:=by rw [←hL];exact Nat.mod_lt _ dcd
     refine⟨L,d,0,rfl,rfl,rfl,om,?_⟩;rw [w64] at hm hlt hL1 hd;refine ai (y:=H+(L+d+0)/18446744073709551616) smp (by rw [w64];omega) (ab om om (ab om om ?_));refine ho.rd.ix (j:=j+q) om hjq ?_;generalize P.getD (j+q) 0=V at*;refine⟨V,(L+d+0)%18446744073709551616,0,rfl,rfl,rfl,om,?_⟩;refine ho.store (j:=j+q) om hjq (Nat.mod_lt _ dcd) rfl λw6 ho6 e6=>?_
     refine ai (y:=H+(L+d+0)/18446744073709551616+(V+(L+d+0)%18446744073709551616+0)/18446744073709551616) smp (by rw [w64];omega) ?_;refine ab om om ⟨lb.length-(q+1),om,q+1,_,_,rfl,om,rfl,om,by rw [w64];omega,by simp [hP],ho6,?_,λk hk=>(getD_set_ne om).trans (hz k hk),e5.own e6 ho.blk_le⟩;have e9:W64^j*(vl W64 (lb.take q)+W64^q*bj)*v=(W64^j*vl W64 (lb.take q)+W64^(j+q)*bj)*v:=by rw [Nat.mul_add,←Nat.mul_assoc,←Nat.pow_add]
     rw [←Nat.add_assoc,Nat.pow_succ,hgb,e9];exact vo (b:=bj) (y:=v) (by rw [w64,Nat.mul_comm bj];omega) rfl rfl rfl rfl rfl (hset _) hv
    ·have:q=lb.length:=om;subst this;refine⟨P,d,rfl,hd,hP,ho,?_,hz,e4⟩;rw [List.take_of_length_le (l:=lb) (Nat.le_refl _)] at hv;rw [hv,hgo];grind
   ·clear ho hv hz e3 hP P;rintro c w4 ⟨P,d,rfl,hd,hP,ho,hv,hz,e4⟩;have hjq:j+lb.length<P.length:=om;refine ab om om (ho.store (j:=j+lb.length) om hjq hd rfl λw5 ho5 e5=>?_);refine ab om om ⟨la.length-(j+1),om,j+1,_,om,rfl,om,by simp [hP],ho5,?_,λk hk=>(getD_set_ne om).trans (hz k om),e4.own e5 ho.blk_le⟩;have hset:=lu (b:=W64) hjq d;have h0:=hz _ (Nat.le_refl _);rw [show P[j+lb.length]=P.getD (j+lb.length) 0 by simp [hjq],h0,Nat.mul_zero,Nat.add_zero] at hset;rw [hset,hv]
  ·have:j=la.length:=om;subst this;rw [List.take_of_length_le (Nat.le_refl _)] at hv;exact⟨P,ho,hv,e3⟩
 rintro w3 ⟨P,ho,hv,e3⟩
 have hsz:sz (vl W64 P)≤1099511627776:=by
  rw [hv];have:=dt (vl W64 la) (vl W64 lb);have:=df ha.sm;have:=df hb.sm;omega
 refine c1 (limb_Norm (x:=vl W64 P) ho.rd.nt hsz) ?_;intro s3 w4 e4 h4;rw [hv] at h4;have e34:=e3.trans e4;refine rt1 (c:=.slice) _ (x1.trans e34.any) ⟨(h4.less ?_).at,(hm1.ext e34).at⟩;exact Nat.le_trans x1.size e3.size
section
variable {t:HL I11} {w:TW}
def mA(tab:List Int):Prop:=∃r0 r1 r2 r3 r4 r5 r6 r7 r8 r9 r10:Int,tab=[r0,r1,r2,r3,r4,r5,r6,r7,r8,r9,r10]∧(4≤r0∧r0≤64)∧(12≤r1∧r1≤8192)∧(64≤r2∧r2≤16384)∧(4≤r3∧r3≤1024)∧(4≤r4∧r4≤4096)∧(2≤r5∧r5≤1024)∧(2≤r6∧r6≤1024)∧(4≤r7∧r7≤256)∧(4≤r8∧r8≤1024)∧(2≤r9∧r9≤1024)∧(2≤r10∧r10≤256)
theorem table_Clamp:Ct Pg F.ie [.agg (aM I11 t).toArray] w aa [.agg I11] λ(r0 r1 r2 r3 r4 r5 r6 r7 r8 r9 r10:Int) _=>mA [r0,r1,r2,r3,r4,r5,r6,r7,r8,r9,r10]:=by
 refine Ct.ie ?_;unfold Sh.ie;intro w1 e1 w2 e2;have e:=(e1.trans e2).drew;refine c1 (table_within dcd) λr0 w3 e3 h0=>c1 (table_within dcd) λr1 w4 e4 h1=>c1 (table_within dcd) λr2 w5 e5 h2=>c1 (table_within dcd) λr3 w6 e6 h3=>c1 (table_within dcd) λr4 w7 e7 h4=>c1 (table_within dcd) λr5 w8 e8 h5=>c1 (table_within dcd) λr6 w9 e9 h6=>c1 (table_within dcd) λr7 w10 e10 h7=>c1 (table_within dcd) λr8 w11 e11 h8=>c1 (table_within dcd) λr9 w12 e12 h9=>c1 (table_within dcd) λr10 w13 e13 h10=>?_
 intro w14 e14;exact⟨(r0,r1,r2,r3,r4,r5,r6,r7,r8,r9,r10,()),rfl,(((((((((((e.trans e3).trans e4).trans e5).trans e6).trans e7).trans e8).trans e9).trans e10).trans e11).trans e12).trans e13).trans e14,r0,r1,r2,r3,r4,r5,r6,r7,r8,r9,r10,rfl,h0,h1,h2,h3,h4,h5,h6,h7,h8,h9,h10⟩
theorem table_New:Ct Pg F.jJ [.agg (aM I11 t).toArray] w aa [.one .ptr] λ(p:Option Addr) w'=>∃b tab,p=some ⟨b,0,none⟩∧w.w.heap.size≤b∧mA tab∧Tn w' b 0 0 0 tab:=by
 refine Ct.jJ ?_;unfold Sh.jJ;intro w1 e1;refine cl0 (table_Clamp (t:=t)) ?_;intro r0 r1 r2 r3 r4 r5 r6 r7 r8 r9 r10 w2 e2 h;intro b w3 hn;have e12:=e1.trans e2;have hb:b=w2.w.heap.size:=hn.at_;refine rt1 (c:=.ptr) (some ⟨b,0,none⟩) (e12.trans (hn.ext _)) ⟨b,_,rfl,?_,h,⟨hn.heap,λhV=>?_⟩⟩
 ·rw [hb];exact e12.size
 ·have hV:w3.V b:=hV;rw [hn.V] at hV;have:=w2.lt _ hV;omega
theorem school_New:Ct Pg F.ji [.agg (aM I11 t).toArray] w aa [.one .ptr] λ(p:Option Addr) w'=>∃e b tab,En w' p e b∧w.w.heap.size≤e∧w.w.heap.size≤b∧e≠b∧mA tab∧Tn w' b 0 0 0 tab:=by
 refine Ct.ji ?_;unfold Sh.ji;intro w1 e1;refine c1 (table_New (t:=t)) ?_;rintro p w2 e2 ⟨b,tab,rfl,hb,htab,htn⟩;intro c w3 hn;have hlt:=htn.lt;have hc:c=w2.w.heap.size:=hn.at_;have hle:=e1.size;have hle2:=e2.size;refine rt1 (c:=.ptr) (some ⟨c,0,none⟩) ((e1.trans e2).trans (hn.ext _)) ⟨c,b,tab,⟨rfl,?_,λhV=>?_⟩,?_,Nat.le_trans hle hb,om,htab,(htn.ext (hn.ext _)).at⟩
 ·show w3.w.cell? _=_;rw [cell_of_row w3.w c 0 _ T.pI (0,0) hn.heap];rfl
 ·have hV:w3.V c:=hV;rw [hn.V] at hV;have:=w2.lt _ hV;omega
 ·rw [hc];exact Nat.le_trans hle hle2
end
section
open Go.ChangeShapes Go.WideShapes Go.ChangeAt Go.RowKit
def zW(P:Program)(fs:Array Field):Bool:=(List.range 11).all λi=>match fs[i]? with
 | some f=>f.offset == i&&P.cellsOf f.type == 1&&(match P.underlying f.type with|some (.int .i64)=>true|_=>false)
 | none=>false
theorem aex{H:Type}{enc:TypeId × Value→H}{P:Program}{w:World}{base b0:Nat}{spare:Nat→Bool}{held:Bool}{r:Reach}{t:TypeId}{fs:Array Field}{v:Value}{d:DataW H}{p:List MemPlace}(hs:P.underlying t=some (.struct fs))(hf:zW P fs=true)(hn:fs.size=11)(hC:P.cellsOf t=11)(hv:Value.okWide P w r b0 t v)(h:DataW.Trod enc P w base spare held t v d p):∃tt:HL I11,v=.agg (aM I11 tt).toArray:=by
 obtain⟨cs,rfl,hsz⟩:=okWide_struct hs hv;obtain⟨fuel,hh⟩:=h;obtain⟨xs,n,_,_,hl,hlen,hx⟩:=DataW.trod_struct hs hh
 have key:∀i,i<11→∃z:Int,cs.toList[i]?=some (.int .i64 z):=λi hi=>by
  have h1:=List.all_eq_true.1 hf i (List.mem_range.2 hi);split at h1
  ·rename_i f hfi;simp only [Bool.and_eq_true,beq_iff_eq] at h1;obtain⟨⟨h2,h3⟩,h4⟩:=h1;have h5:=hx i f hfi;have h6:i<xs.length:=om;rw [List.getElem?_eq_getElem h6] at h5;split at h4
   ·rename_i hu;obtain⟨z,hz,_⟩:=DataW.trod_int hu h5;refine⟨z,?_⟩;rw [h2,h3] at hz;simp only [Value.cells] at hz
    have:(cs.toList.drop i)[0]?=some (.int .i64 z):=by
     have h7:=congrArg (λl=>l[0]?) hz;simpa [List.getElem?_take] using h7
    simpa using this
   ·cases h4
  ·cases h1
 obtain⟨z0,h0⟩:=key 0 dcd;obtain⟨z1,h1⟩:=key 1 dcd;obtain⟨z2,h2⟩:=key 2 dcd;obtain⟨z3,h3⟩:=key 3 dcd;obtain⟨z4,h4⟩:=key 4 dcd;obtain⟨z5,h5⟩:=key 5 dcd;obtain⟨z6,h6⟩:=key 6 dcd;obtain⟨z7,h7⟩:=key 7 dcd;obtain⟨z8,h8⟩:=key 8 dcd;obtain⟨z9,h9⟩:=key 9 dcd;obtain⟨z10,h10⟩:=key 10 dcd;refine⟨(z0,z1,z2,z3,z4,z5,z6,z7,z8,z9,z10,()),?_⟩;congr 1;refine Array.toList_inj.1 (List.ext_getElem? λi=>?_);have hlen:cs.toList.length=11:=by simpa using hsz.trans hC
 match i with
 | 0=>exact h0
 | 1=>exact h1
 | 2=>exact h2
 | 3=>exact h3
 | 4=>exact h4
 | 5=>exact h5
 | 6=>exact h6
 | 7=>exact h7
 | 8=>exact h8
 | 9=>exact h9
 | 10=>exact h10
 | i+11=>rw [List.getElem?_eq_none om];rfl
end
end Go.Proofs.YtpbimnlggalnfaaGreatDoor.Zg
