/- A part of the proofs of this seat's laws: words, lemmas or contracts of its functions. -/
import Derived.Test.YtjhfalgmgagdhaaGreatDoorGNF
set_option linter.unusedVariables false
set_option linter.unusedSimpArgs false
set_option linter.unnecessarySimpa false
section
namespace Go.Proofs.YtjhfalgmgagdhaaGreatDoor.Zg
open Go.RowKit
set_option maxHeartbeats 1600000 in
theorem law29_ZmulTables {w:TW} {t u:HL I11} {a b:Sl} {zs ys:List Int} (hG:Gl w) (ha:Ri w a zs) (hb:Ri w b ys):Ct Pg F.zigguratlaw29_ZmulTables [.agg (encs I11 t).toArray,.agg (encs I11 u).toArray,a.v,b.v] w none_ [.one .bool] fun (r:Bool) _=>r=true:=by
 refine Ct.zigguratlaw29_ZmulTables ?_
 unfold Sh.zigguratlaw29_ZmulTables
 intro w1 e1 w2 e2
 have e12:=e1.trans e2
 refine c1 (keep_CutInts (k:=40) (n:=4) (ha.here.ext e12) (by decide)) ?_
 rintro s w3 e3 ⟨X,hs,lx⟩
 refine c1 (keep_CutInts (k:=40) (n:=4) ((hb.here.ext e12).ext e3) (by decide)) ?_
 rintro s1 w4 e4 ⟨Y,ht,ly⟩
 have hhx:=hs.hgt
 have hhy:=ht.hgt
 have e14:=((e12.trans e3).trans e4).drew
 refine zmul_mk (t:=t) (hG.here.ext e14) fun p w5 tt tab e5 hE htt hp=>?_
 have e15:=e14.trans e5
 refine zmul_mk (t:=u) (hG.here.ext e15) fun p1 w6 uu tabu e6 hF huu hp1=>?_
 have hlt5:=hE.tz.lt
 have hE:=hE.ext e6
 obtain ⟨zm,pz,mo,hg,g,po,nu,ra,ro,dv,rc,c,m,d,k,e',hE⟩:=hE
 obtain ⟨fa,fb,fc,fd,fe,ff,fg,fh,fi,fj,fk,fl,fm,fn,fo,fp,hF⟩:=hF
 have hne:tt≠uu:=by omega
 have hX:Ri w6 s X:=hs.ri.ext ((e4.drew.trans e5).trans e6)
 have hY:Ri w6 s1 Y:=ht.ri.ext (((Ext.refl _ _).drew.trans e5).trans e6)
 have e16:=e15.trans e6
 refine j1 (fun (x:Bool) w7=>x=false∧w7=w6) (cnd_f hp ⟨hp1,rfl⟩) ?_
 rintro x w7 ⟨rfl,rfl⟩
 refine cnd_f rfl ?_
 have hsw:Shw X Y:=.of (by omega) (by omega) (by omega)
 have hsw':Shw Y X:=.of (by omega) (by omega) (by omega)
 have ⟨pl,ph⟩:=pmt_small (k:=6) lx ly hhx hhy (by decide)
 have farE:∀{v v':TW},Ext none_ w.here v→Xt1 tt v v'→Ext none_ w.here v':=fun h x=>h.own x fun c hc=>by
  have q1:w.here.w.heap.size≤w4.drew.w.heap.size:=e14.size
  rw [hc];omega
 have farF:∀{v v':TW},Ext none_ w.here v→Xt1 uu v v'→Ext none_ w.here v':=fun h x=>h.own x fun c hc=>by
  have q1:w.here.w.heap.size≤w5.w.heap.size:=e15.size
  rw [hc];omega
 refine t1 hE.tz (zmul_Times hE hX hY hsw (by decide) (by decide)) ?_
 rintro s2 w8 x8 ⟨h8,hE8⟩
 have hX8:=hX.extT hE.tz x8
 have hY8:=hY.extT hE.tz x8
 have hF8:=hF.other hE.tz (fun h=>hne h.symm) x8
 have f8:=farE e16 x8
 refine j1 (fun (x:Bool) w15=>x=false∧Ext none_ w.here w15∧Eg w15 p [zm,pz,mo,hg,g,po,nu,ra,ro,dv,rc,c,m,d,k,e'] tt 0 tab) ?_ ?_
 ·refine t1 hF8.tz (zmul_Times hF8 hY8 hX8 hsw' (by decide) (by decide)) ?_
  rintro s3 w9 x9 ⟨h9,hF9⟩
  have hX9:=hX8.extT hF8.tz x9
  have hY9:=hY8.extT hF8.tz x9
  have hE9:=hE8.other hF8.tz hne x9
  have h89:=h8.extT hF8.tz x9
  have f9:=farF f8 x9
  rw [pmt_comm] at h9
  refine ints_ok h89 h9 (by omega) fun w10 e10=>cnd_f rfl ?_
  have hF10:=hF9.ext e10
  refine t1 hF10.tz (zmul_Many hF10 (hX9.ext e10) (hY9.ext e10) hsw.1 hsw.2 (by decide) (by decide)) ?_
  rintro s4 w11 x11 ⟨h11,hF11⟩
  have h811:=(h89.ext e10).extT hF10.tz x11
  have f11:=farF (f9.trans e10) x11
  refine ints_ok h811 h11 (by omega) fun w12 e12'=>cnd_f rfl ?_
  have hE12:=((hE9.ext e10).other hF10.tz hne x11).ext e12'
  have hX12:=((hX9.ext e10).extT hF10.tz x11).ext e12'
  have hY12:=((hY9.ext e10).extT hF10.tz x11).ext e12'
  refine t1 hE12.tz (zmul_Kron hE12 hY12 hX12 hsw'.1 (by decide) (by decide)) ?_
  rintro s5 w13 x13 ⟨h13,hE13⟩
  rw [pmt_comm] at h13
  refine ints_ok ((h811.ext e12').extT hE12.tz x13) h13 (by omega) fun w14 e14'=>?_
  exact ⟨rfl,(farE (f11.trans e12') x13).trans e14',hE13.ext e14'⟩
 rintro x w15 ⟨rfl,f15,hE15⟩
 refine cnd_f rfl ?_
 refine cl0 (num_Of (n:=-6) (by decide) (by decide)) ?_
 intro r r1 w16 e16' hr
 have hr:Io w16 w15.w.heap.size r r1 (-6):=hr
 refine cl0 (num_Of (n:=7) (by decide) (by decide)) ?_
 intro r2 r3 w17 e17 hr2
 have hr2:Io w17 w16.w.heap.size r2 r3 7:=hr2
 intro w18 e18 w19 e19 w20 e20 w21 e21
 have e1721:=(((e18.trans e19).trans e20).trans e21).drew
 have e1521:=(e16'.trans e17).trans e1721
 refine j1 (fun (x:Bool) w26=>x=true∧Ext none_ w.here w26) ?_ ?_
 ·have hE21:=hE15.ext e1521
  refine hE21.down6 fun _ _ _ _ _ _ _ _ _ _ _ _ E6 H6=>?_
  have z6:sz (6:Nat)≤1:=sz_word (by decide)
  have z7:sz (7:Nat)≤1:=sz_word (by decide)
  refine tM hE21.tz (num_Times E6 (hr.iz.ext (e17.trans e1721)) (hr2.iz.ext e1721) (by show sz 6≤_;omega) (by show sz 7≤_;omega) (by decide) (by decide)) ?_
  rintro r4 r5 w22 x22 ⟨h22,-⟩
  have H22:=(H6.extT x22).tail
  refine hldC H22 ?_
  refine cl0 (num_Of (n:=-42) (by decide) (by decide)) ?_
  intro r6 r7 w23 e23 hr6
  have hr6:Io w23 w22.w.heap.size r6 r7 (-42):=hr6
  refine hldC (H22.ext e23) ?_
  have hIo:Io w23 w21.drew.w.heap.size r4 r5 (-42):=h22.ext e23
  refine c1 (keep_IntE (a:=(r4,r5)) (b:=(r6,r7)) hIo.el hr6.el) ?_
  rintro q w24 e24 rfl
  refine hldC (H22.ext (e23.trans e24)) (cnd_t rfl ?_)
  refine wk29 fun w25 e25=>?_
  refine hldC (H22.ext ((e23.trans e24).trans e25)) ⟨rfl,?_⟩
  exact (farE (f15.trans e1521) x22).trans ((e23.trans e24).trans e25)
 rintro x w26 ⟨rfl,f26⟩
 exact rt1 (c:=.bool) _ f26 rfl
theorem nw_rz3 {w:TW} {e:TypeId} {s u v:Sl} {x y z:List Int} {K:Nat→TW→Prop} (hs:Ri w s x) (hu:Ri w u y) (hv:Ri w v z) (hK:∀b w',Rz w' ⟨some ⟨b,0,none⟩,3,3⟩ [x,y,z]→Ext none_ w w'→K b w'):nwb w [s.v,u.v,v.v] e K:=by
 intro b w' hw
 refine hK b w' ⟨[s,u,v],⟨rfl,Nat.le_refl _,by show 3≤maxLen;decide,fun _=>⟨b,0,rfl,fun hV=>?_,fun j v hj=>?_⟩⟩,rfl,fun i hi=>?_⟩ (hw.ext _)
 ·rw [hw.V] at hV
  have:=w.lt _ hV
  have:=hw.at_
  omega
 ·rw [cell_of_row w'.w b (0+j) _ e (0,0) hw.heap]
  simpa [s1v] using hj
 ·match i,hi with
  | 0,_=>exact hs.ext (hw.ext _)
  | 1,_=>exact hu.ext (hw.ext _)
  | 2,_=>exact hv.ext (hw.ext _)
set_option maxHeartbeats 1600000 in
theorem law29_ZmulAlls {w:TW} {t:HL I11} {a b c0':Sl} {zs ys us:List Int} {n:Int} (hG:Gl w) (ha:Ri w a zs) (hb:Ri w b ys) (hc:Ri w c0' us) (_:-9223372036854775808≤n∧n≤9223372036854775807):Ct Pg F.zigguratlaw29_ZmulAlls [.agg (encs I11 t).toArray,a.v,b.v,c0'.v,.int .i64 n] w none_ [.one .bool] fun (r:Bool) _=>r=true:=by
 refine Ct.zigguratlaw29_ZmulAlls ?_
 unfold Sh.zigguratlaw29_ZmulAlls
 intro w1 e1
 refine c2 (law29_cut (n:=5) (k:=2) (ha.here.ext e1) (by decide) (by decide)) ?_
 rintro s s1 w2 e2 ⟨X,lx,hs,hs1⟩
 refine c2 (law29_cut (n:=5) (k:=2) ((hb.here.ext e1).ext e2) (by decide) (by decide)) ?_
 rintro s2 s3 w3 e3 ⟨Y,ly,ht,ht1⟩
 refine c2 (law29_cut (n:=5) (k:=2) (((hc.here.ext e1).ext e2).ext e3) (by decide) (by decide)) ?_
 rintro s4 s5 w4 e4 ⟨Z,lz,hu,hu1⟩
 have e14:=((e1.trans e2).trans e3).trans e4
 refine zmul_mk (t:=t) (hG.here.ext e14) fun p w5 tt tab e5 hE htt hp=>cnd_f hp ?_
 obtain ⟨zm,pz,mo,hg,g,po,nu,ra,ro,dv,rc,c,m,d,k,e',hE⟩:=hE
 have hhx:=hs.hgt
 have hhy:=ht.hgt
 have hhz:=hu.hgt
 have lX:=ptrim_len X
 have lY:=ptrim_len Y
 have lZ:=ptrim_len Z
 refine j1 (fun (r:Int) w7=>r≤8∧Ext none_ w5 w7) ?_ ?_
 ·refine cnd_d (fun h=>?_) (fun h=>⟨by omega,Ext.refl _ _⟩)
  refine c1 (keep_Within (v:=n) (n:=8) (by decide) (by decide)) ?_
  rintro q w6 e6 ⟨q0,q1⟩
  exact ⟨by omega,e6⟩
 rintro (n1:Int) w7 ⟨hn8,e7⟩
 have e57:=e5.trans e7
 have hE7:=hE.ext e7
 have rX:Rq (dg B32) w7 s1 (ptrim X):=hs1.ext ((e3.trans e4).trans e57)
 have rY:Rq (dg B32) w7 s3 (ptrim Y):=ht1.ext (e4.trans e57)
 have rZ:Rq (dg B32) w7 s5 (ptrim Z):=hu1.ext e57
 have iX:Ri w7 s X:=hs.ri.ext ((e3.trans e4).trans e57)
 have iY:Ri w7 s2 Y:=ht.ri.ext (e4.trans e57)
 have iZ:Ri w7 s4 Z:=hu.ri.ext e57
 have hX':hgt (ptrim X)≤128:=by rw [hgt_trim];omega
 have hY':hgt (ptrim Y)≤128:=by rw [hgt_trim];omega
 have hZ':hgt (ptrim Z)≤128:=by rw [hgt_trim];omega
 have nX:Nm (ptrim X):=Nm.trim X
 obtain ⟨A,hA⟩:∃A,ptrim X=A:=⟨_,rfl⟩
 obtain ⟨B,hB⟩:∃B,ptrim Y=B:=⟨_,rfl⟩
 obtain ⟨C,hC⟩:∃C,ptrim Z=C:=⟨_,rfl⟩
 have i1:AllAt [X] (ptrim X) p [zm,pz,mo,hg,g,po,nu,ra,ro,dv,rc,c,m,d,k,e'] tt 0 tab:=all_one (by omega) (by omega)
 have i2:AllAt [Y] (ptrim Y) p [zm,pz,mo,hg,g,po,nu,ra,ro,dv,rc,c,m,d,k,e'] tt 0 tab:=all_one (by omega) (by omega)
 have i3:AllAt [Z] (ptrim Z) p [zm,pz,mo,hg,g,po,nu,ra,ro,dv,rc,c,m,d,k,e'] tt 0 tab:=all_one (by omega) (by omega)
 have hP:∀q,(pwz A q).length≤1+q*5∧hgt (pwz A q)≤1+q*131:=hA▸pwz_ok (by omega) hX'
 have hpow:∀{v:TW} {y:Sl} {q:Nat},Rq (dg B32) v y A→q≤64→Ct Pg F.zigguratref28_Pow [y.v,.int .i64 q] v none_ [.one .slice] fun (s:Sl) w'=>Rq (dg B32) w' s (pwz A q):=fun h hq=>ref28_Pow h (by rw [←hA];omega) (by rw [←hA];exact hX') hq
 have hPw:∀{v:TW},Eg v p [zm,pz,mo,hg,g,po,nu,ra,ro,dv,rc,c,m,d,k,e'] tt 0 tab→Ri v s X→Ct Pg F.zmul_Engine_Pow [.pointer p,s.v,.int .i64 n1] v (fun k=>k=tt) [.one .slice] fun (s:Sl) w'=>Rq (dg W64) w' s (pwz A n1.toNat)∧Eg w' p [zm,pz,mo,hg,g,po,nu,ra,ro,dv,rc,c,m,d,k,e'] tt 0 tab:=fun h1 h2=>hA▸zmul_Pow h1 h2 lx (by omega) hn8 (by decide) (by decide)
 rw [hA] at rX hX' lX i1
 rw [hB] at rY hY' lY i2
 rw [hC] at rZ hZ' lZ i3
 have ⟨pl,ph⟩:=pmt_small (xs:=A) (ys:=B) (n:=5) (h:=128) (k:=3) (by omega) (by omega) hX' hY' (by decide)
 have ⟨ql,qh⟩:=pmt_small (xs:=B) (ys:=C) (n:=5) (h:=128) (k:=3) (by omega) (by omega) hY' hZ' (by decide)
 have ⟨ol,oh⟩:=pmt_small (xs:=pmt A B) (ys:=C) (n:=10) (h:=259) (k:=4) (by omega) (by omega) (by omega) (by omega) (by decide)
 have i23:AllAt [Y,Z] (pmt B C) p [zm,pz,mo,hg,g,po,nu,ra,ro,dv,rc,c,m,d,k,e'] tt 0 tab:=all_two (zss:=[Y,Z]) (h:=1) (by simp) (by simp) (by simp) i2 i3 (.of (by omega) (by omega) (by omega)) (by decide) (by decide)
 have i123:AllAt [X,Y,Z] (pmt A (pmt B C)) p [zm,pz,mo,hg,g,po,nu,ra,ro,dv,rc,c,m,d,k,e'] tt 0 tab:=all_two (zss:=[X,Y,Z]) (h:=1) (by simp) (by simp) (by simp) i1 i23 (.of (by omega) (by omega) (by omega)) (by decide) (by decide)
 have far:∀{v v':TW},Ext none_ w.here v→Xt1 tt v v'→Ext none_ w.here v':=fun h x=>h.own x fun c hc=>by
  have q1:w.here.w.heap.size≤w4.w.heap.size:=e14.size
  rw [hc];omega
 have f7:=e14.trans e57
 refine j1 (fun (x:Bool) w20=>x=true∧Ext none_ w.here w20) ?_ ?_
 ·refine c1 (ref28_Mul rX rY ⟨by omega,by omega,by omega⟩) fun s6 w8 e8 h8=>?_
  refine c1 (ref28_Mul h8 (rZ.ext e8) ⟨by omega,by omega,by omega⟩) fun s7 w9 e9 h9=>?_
  have e89:=e8.trans e9
  refine nw_rz3 (iX.ext e89) (iY.ext e89) (iZ.ext e89) fun b1 w10 h10 e10=>?_
  have e810:=e89.trans e10
  have hE10:=hE7.ext e810
  refine t1 hE10.tz (i123 (l:=⟨some ⟨b1,0,none⟩,3,3⟩) hE10 h10) ?_
  rintro s8 w11 x11 ⟨h11,hE11⟩
  rw [←pmt_assoc] at h11
  refine same_ok ((h9.ext e10).extT hE10.tz x11) h11 (by omega) (by omega) fun w12 e12=>cnd_t rfl ?_
  have f12:=(far (f7.trans e810) x11).trans e12
  refine bnd_eq (y:=((n1.toNat:Nat):Int)) (by split<;>omega) ?_
  have rX12:=((rX.ext e810).extT hE10.tz x11).ext e12
  have rY12:=((rY.ext e810).extT hE10.tz x11).ext e12
  refine c1 (hpow rX12 (by omega)) fun s9 w13 e13 h13=>?_
  have iX13:=(((iX.ext e810).extT hE10.tz x11).ext e12).ext e13
  have hE13:=(hE11.ext e12).ext e13
  refine t1 hE13.tz (hPw hE13 iX13) ?_
  rintro s10 w14 x14 ⟨h14,hE14⟩
  have q1:=hP n1.toNat
  refine same_ok (h13.extT hE13.tz x14) h14 (by omega) (by omega) fun w15 e15=>cnd_t rfl ?_
  have f15:=(far (f12.trans e13) x14).trans e15
  have rY15:=((rY12.ext e13).extT hE13.tz x14).ext e15
  have hE15:=hE14.ext e15
  refine c1 (ref28_Pow (n:=0) rY15 (by omega) hY' (by decide)) fun s11 w16 e16 h16=>?_
  have hE16:=hE15.ext e16
  refine t1 hE16.tz (all_none (l:=Sl.nil) hE16 rfl) ?_
  rintro s12 w17 x17 ⟨h17,hE17⟩
  refine same_ok (zs:=[1]) (h16.extT hE16.tz x17) h17 (by decide) (by have:=(hP 0).2;simp [pwz] at this;omega) fun w18 e18=>cnd_t rfl ?_
  refine wk29 fun w19 e19=>⟨rfl,(far (f15.trans e16) x17).trans (e18.trans e19)⟩
 rintro x w20 ⟨rfl,f20⟩
 exact rt1 (c:=.bool) _ f20 rfl
end Go.Proofs.YtjhfalgmgagdhaaGreatDoor.Zg
end
