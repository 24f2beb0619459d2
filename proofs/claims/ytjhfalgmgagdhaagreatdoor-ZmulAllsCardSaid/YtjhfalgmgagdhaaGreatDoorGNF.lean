/- A part of the proofs of this seat's laws: words, lemmas or contracts of its functions. -/
import Derived.Test.YtjhfalgmgagdhaaGreatDoorGNE
import Derived.Test.YtjhfalgmgagdhaaGreatDoorGP4
set_option linter.unusedVariables false
set_option linter.unusedSimpArgs false
set_option linter.unnecessarySimpa false
section
namespace Go.Proofs.YtjhfalgmgagdhaaGreatDoor.Zg
open Go.RowKit
theorem Rq.extT {D:Nat→List Nat} {w w':TW} {t:Nat} {s:Sl} {zs:List Int} (h:Rq D w s zs) (hT:Tz w t) (e:Xt1 t w w'):Rq D w' s zs:=by
 obtain ⟨ts,g1,g2,g3⟩:=h
 exact ⟨ts,g1.extT (iv_ne ts) hT e,g2,fun i hi=>⟨(g3 i hi).1.extT hT e,(g3 i hi).2⟩⟩
theorem same_ok {w:TW} {a b:Sl} {zs:List Int} (ha:Rq (dg B32) w a zs) (hb:Rq (dg W64) w b zs) (hl:zs.length≤1048576) (hh:hgt zs≤1000000) {K:Bool→TW→Prop} (hK:∀w',Ext none_ w w'→K true w'):cl Pg F.zigguratref28_Same [a.v,b.v] w [.one .bool] K:=by
 refine c1 (ref28_Same ha hb hl fun i=>?_) ?_
 ·have h1:=sz_bits (bl_iff (hgt_le (l:=zs) i))
  have h2:=dz_of_sz h1
  omega
 ·rintro r w' e rfl
  exact hK w' e
theorem ints_ok {D:Nat→List Nat} {w:TW} {a b:Sl} {zs:List Int} (ha:Rq D w a zs) (hb:Rq D w b zs) (hl:zs.length≤1048576) {K:Bool→TW→Prop} (hK:∀w',Ext none_ w w'→K true w'):cl Pg F.zigguratkeep_Ints [a.v,b.v] w [.one .bool] K:=by
 refine c1 (keep_Ints ha hb (by omega)) ?_
 rintro r w' e rfl
 exact hK w' e
structure Ways (w:TW) (D E:Nat→List Nat) (s s2 s4 s5 s1 s3 s6:Sl) (zx zy xs ys zp:List Int):Prop where
 a:Rq D w s zx
 b:Rq E w s2 zy
 u:Rq D w s4 zx
 v:Rq E w s5 zy
 x:Rq (dg B32) w s1 xs
 y:Rq (dg B32) w s3 ys
 p:Rq (dg B32) w s6 zp
theorem Ways.ext {w w':TW} {D E:Nat→List Nat} {s s2 s4 s5 s1 s3 s6:Sl} {zx zy xs ys zp:List Int} (h:Ways w D E s s2 s4 s5 s1 s3 s6 zx zy xs ys zp) (e:Ext none_ w w'):Ways w' D E s s2 s4 s5 s1 s3 s6 zx zy xs ys zp:=
 ⟨h.a.ext e,h.b.ext e,h.u.ext e,h.v.ext e,h.x.ext e,h.y.ext e,h.p.ext e⟩
theorem Ways.extT {w w':TW} {t:Nat} {D E:Nat→List Nat} {s s2 s4 s5 s1 s3 s6:Sl} {zx zy xs ys zp:List Int} (h:Ways w D E s s2 s4 s5 s1 s3 s6 zx zy xs ys zp) (hT:Tz w t) (e:Xt1 t w w'):Ways w' D E s s2 s4 s5 s1 s3 s6 zx zy xs ys zp:=
 ⟨h.a.extT hT e,h.b.extT hT e,h.u.extT hT e,h.v.extT hT e,h.x.extT hT e,h.y.extT hT e,h.p.extT hT e⟩
theorem pmt_small {xs ys:List Int} {n h k:Nat} (h1:xs.length≤n) (h2:ys.length≤n) (h3:hgt xs≤h) (h4:hgt ys≤h) (hn:n<2^k):(pmt xs ys).length≤2*n∧hgt (pmt xs ys)≤2*h+k:=by
 have a1:=pmt_len xs ys
 have a2:=pmt_hgt xs ys
 have a3:bl (min xs.length ys.length)≤k:=bl_pow (by omega)
 omega
theorem bd_hgt (xs ys:List Int):hgt (pmt xs ys)≤bd xs ys:=by
 unfold bd
 split
 ·rename_i h
  rw [pmt_none h]
  simp [hgt]
 ·have:=pmt_hgt (ptrim xs) (ptrim ys)
  rw [pmt_trim,hgt_trim,hgt_trim] at this
  exact this
set_option maxHeartbeats 1600000 in
theorem law29_ZmulWays {w:TW} {t:HL I11} {a b:Sl} {zs ys:List Int} (hG:Gl w) (ha:Ri w a zs) (hb:Ri w b ys):Ct Pg F.zigguratlaw29_ZmulWays [.agg (encs I11 t).toArray,a.v,b.v] w none_ [.one .bool] fun (r:Bool) _=>r=true:=by
 refine Ct.zigguratlaw29_ZmulWays ?_
 unfold Sh.zigguratlaw29_ZmulWays
 intro w1 e1
 refine c2 (law29_cut (n:=14) (k:=5) (ha.here.ext e1) (by decide) (by decide)) ?_
 rintro s s1 w2 e2 ⟨X,lx,hs,hs1⟩
 refine c2 (law29_cut (n:=14) (k:=5) ((hb.here.ext e1).ext e2) (by decide) (by decide)) ?_
 rintro s2 s3 w3 e3 ⟨Y,ly,ht,ht1⟩
 have e13:=(e1.trans e2).trans e3
 refine zmul_mk (t:=t) (hG.here.ext e13) fun p w4 tt tab e4 hE htt hp=>cnd_f hp ?_
 obtain ⟨zm,pz,mo,hg,g,po,nu,ra,ro,dv,rc,c,m,d,k,e',hE⟩:=hE
 have hhx:=hs.hgt
 have hhy:=ht.hgt
 obtain ⟨D,zx,hr,hlx,hD,hri⟩:=(hs.ext (e3.trans e4)).raw
 obtain ⟨E,zy,hr',hly,hD',hri'⟩:=(ht.ext e4).raw
 refine c1 (keep_CopyInts hr (by omega) fun i=>Nat.le_trans (hD i) (by decide)) fun s4 w5 e5 h5=>?_
 refine c1 (keep_CopyInts (hr'.ext e5) (by omega) fun i=>Nat.le_trans (hD' i) (by decide)) fun s5 w6 e6 h6=>?_
 have lX:=ptrim_len X
 have lY:=ptrim_len Y
 have e46:=e5.trans e6
 have e36:=e4.trans e46
 have hs1:=hs1.ext (e3.trans e36)
 have ht1:=ht1.ext e36
 refine c1 (ref28_Mul hs1 ht1 ⟨by omega,by omega,by rw [hgt_trim,hgt_trim];omega⟩) fun s6 w7 e7 h7=>?_
 rw [pmt_trim] at h7
 have W7:Ways w7 D E s s2 s4 s5 s1 s3 s6 zx zy (ptrim X) (ptrim Y) (pmt X Y):=⟨hr.ext (e46.trans e7),hr'.ext (e46.trans e7),h5.ext (e6.trans e7),h6.ext e7,hs1.ext e7,ht1.ext e7,h7⟩
 have hE7:=hE.ext (e46.trans e7)
 have e07:Ext none_ w.here w7:=e13.trans (e36.trans e7)
 have hsw:Shw X Y:=.of (by omega) (by omega) (by omega)
 have ⟨pl,ph⟩:=pmt_small (k:=4) lx ly hhx hhy (by decide)
 have far:∀{v v':TW},Ext none_ w.here v→Xt1 tt v v'→Ext none_ w.here v':=fun h x=>h.own x fun c hc=>by
  have q1:w.here.w.heap.size≤w3.w.heap.size:=e13.size
  rw [hc];omega
 refine j1 (fun (x:Bool) w16=>x=false∧Ways w16 D E s s2 s4 s5 s1 s3 s6 zx zy (ptrim X) (ptrim Y) (pmt X Y)∧Ext none_ w.here w16∧Gl w16) ?_ ?_
 ·refine t1 hE7.tz (zmul_Times hE7 (hri W7.u) (hri' W7.v) hsw (by decide) (by decide)) ?_
  rintro s7 w8 x8 ⟨h8,hE8⟩
  have W8:=W7.extT hE7.tz x8
  refine same_ok W8.p h8 (by omega) (by omega) fun w9 e9=>cnd_f rfl ?_
  have W9:=W8.ext e9
  have hE9:=hE8.ext e9
  refine t1 hE9.tz (zmul_Kron hE9 (hri W9.u) (hri' W9.v) hsw.1 (by decide) (by decide)) ?_
  rintro s8 w10 x10 ⟨h10,hE10⟩
  have W10:=W9.extT hE9.tz x10
  refine same_ok W10.p h10 (by omega) (by omega) fun w11 e11=>cnd_f rfl ?_
  have W11:=W10.ext e11
  have hE11:=hE10.ext e11
  refine t1 hE11.tz (zmul_Many hE11 (hri W11.u) (hri' W11.v) hsw.1 hsw.2 (by decide) (by decide)) ?_
  rintro s9 w12 x12 ⟨h12,hE12⟩
  have W12:=W11.extT hE11.tz x12
  refine same_ok W12.p h12 (by omega) (by omega) fun w13 e13'=>cnd_f rfl ?_
  have W13:=W12.ext e13'
  have hE13:=hE12.ext e13'
  refine hE13.down fun q1 E1=>?_
  refine t1 hE13.tz (polyz_Hand E1 (hri W13.u) (hri' W13.v) hsw.1.sht (by decide) (by decide)) ?_
  rintro s10 w14 x14 ⟨h14,E14⟩
  have W14:=W13.extT hE13.tz x14
  have hE14:=hE13.re x14 E14
  refine same_ok W14.p h14.rq (by omega) (by omega) fun w15 e15=>?_
  have f8:=(far e07 x8).trans e9
  have f10:=(far f8 x10).trans e11
  have f12:=(far f10 x12).trans e13'
  exact ⟨rfl,W14.ext e15,(far f12 x14).trans e15,(hE14.ext e15).gl⟩
 rintro x w16 ⟨rfl,W16,f16,hG16⟩
 refine cnd_f rfl ?_
 have n1:=W16.x.len
 have n3:=W16.y.len
 obtain ⟨mn,hmn⟩:∃mn,mn=min (ptrim X).length (ptrim Y).length:=⟨_,rfl⟩
 refine bnd_eq (y:=(mn:Int)) (by split<;>omega) ?_
 refine j1 (fun (r:Int) w18=>r=(bl mn:Nat)∧w18=w16) ?_ ?_
 ·refine lp2 (fun M (r x:Int) w17=>∃q u:Nat,r=q∧x=u∧M=u∧bl mn=q+bl u∧u≤mn∧w17=w16) mn ⟨0,mn,rfl,rfl,rfl,by omega,by omega,rfl⟩ ?_
  rintro M r x w17 ⟨q,u,rfl,rfl,hM,hu,hum,rfl⟩
  have hb16:bl mn≤16:=bl_pow (by omega)
  refine cnd_d (fun h=>?_) (fun h=>?_)
  ·have hh:=bl_half (m:=u) (by omega)
   refine bnd_wi (by omega) (by omega) (divNi (x:=u) (y:=2) rfl rfl (by omega) (by omega) ⟨u/2,by omega,q+1,u/2,by omega,rfl,rfl,by omega,by omega,rfl⟩)
  ·refine ⟨?_,rfl⟩
   have:u=0:=by omega
   rw [this,bl_zero] at hu
   omega
 rintro r w18 ⟨rfl,rfl⟩
 have hb4:bl mn≤4:=bl_pow (by omega)
 have hb0:bl mn=0↔mn=0:=by
  constructor
  ·intro h
   have:=bl_lt mn
   rw [h] at this;omega
  ·intro h;rw [h,bl_zero]
 have hbd:bd X Y=if 0<bl mn then hgt X+hgt Y+bl mn else 0:=by
  unfold bd
  rw [←hmn]
  by_cases h:mn=0
  ·rw [if_pos (by omega),if_neg (by omega)]
  ·rw [if_neg (by omega),if_pos (by omega)]
 have dzl:∀(l:List Int),hgt l≤320→∀i,dz (l.getD i 0).natAbs≤274877906944:=fun l hl i=>by
  have:=dz_of_sz (sz_bits (bl_iff (hgt_le (l:=l) i)))
  omega
 refine j1 (fun (r:Int) w21=>r=(bd X Y:Nat)∧Ext none_ w18 w21) ?_ ?_
 ·rw [hbd]
  refine cnd_d (fun h=>?_) (fun h=>?_)
  ·refine c1 (ref28_Height W16.x (by omega) (dzl _ (by rw [hgt_trim];omega))) ?_
   rintro r w19 e19 rfl
   refine c1 (ref28_Height (W16.y.ext e19) (by omega) (dzl _ (by rw [hgt_trim];omega))) ?_
   rintro r w20 e20 rfl
   rw [hgt_trim,hgt_trim,if_pos (by omega)]
   exact bnd_wi (by omega) (by omega) (bnd_wi (by omega) (by omega) ⟨by push_cast;rfl,e19.trans e20⟩)
  ·rw [if_neg (by omega)]
   exact ⟨rfl,Ext.refl _ _⟩
 rintro r w21 ⟨rfl,e21⟩
 have W21:=W16.ext e21
 refine j1 (fun (r:Bool) w27=>r=true∧Ext none_ w21 w27) ?_ ?_
 ·refine c1 (zmul_Bound (hri W21.u) (hri' W21.v) hsw.1) ?_
  rintro r w22 e22 rfl
  refine cnd_t (by simp) ?_
  refine c1 (ref28_Height (W21.p.ext e22) (by omega) fun i=>?_) ?_
  ·have:=dz_of_sz (sz_bits (bl_iff (hgt_le (l:=pmt X Y) i)))
   omega
  rintro r w23 e23 rfl
  have hbh:=bd_hgt X Y
  refine cnd_t (by simp;omega) ?_
  have W23:=W21.ext (e22.trans e23)
  refine ints_ok W23.u W23.a (by omega) fun w24 e24=>cnd_t rfl ?_
  have W24:=W23.ext e24
  refine ints_ok W24.v W24.b (by omega) fun w25 e25=>cnd_t rfl ?_
  refine wk29 fun w26 e26=>⟨rfl,((e22.trans e23).trans e24).trans (e25.trans e26)⟩
 rintro r w27 ⟨rfl,e27⟩
 exact rt1 (c:=.bool) _ ((f16.trans e21).trans e27) rfl
end Go.Proofs.YtjhfalgmgagdhaaGreatDoor.Zg
end
