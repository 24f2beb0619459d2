/- A part of the proofs of this seat's laws: words, lemmas or contracts of its functions. -/
import Derived.Test.YtjhfalgmgagdhaaGreatDoorGC
set_option linter.unusedVariables false
set_option linter.unusedSimpArgs false
set_option linter.unnecessarySimpa false
section
set_option maxRecDepth 100000
namespace Go.Proofs.YtjhfalgmgagdhaaGreatDoor.Zg
open Go.Proofs.Tryz
def Sh.hgcd_New (t:HL I11) (R:Value→TW→Prop) (w:TW):Prop:=
nwv w fun w1=>
cl Pg F.gcd_New [.agg (encs I11 t).toArray] w1 [.one .ptr] fun (p:Option Addr) w2=>
nwb w2 [.pointer p] T.hgcd_Engine fun b w3=>
R (.pointer (some ⟨b,0,none⟩)) w3
theorem Ct.hgcd_New {t:HL I11} {w:TW} {X:Nat→Prop} {K:KT [.one .ptr]} (h:Sh.hgcd_New t (Rt X [.one .ptr] K w) w.here):Ct Pg F.hgcd_New [.agg (encs I11 t).toArray] w X [.one .ptr] K:=
 cod (Sh.hgcd_New t) 7 [(1,7)] [(7,11)] [] f36 h
def Sh.hgcd_Engine_Xgcd (e0:Option Addr) (a:Sl) (b:Sl) (R:Value→TW→Prop) (w:TW):Prop:=
nwv w fun w1=>
nwv w1 fun w2=>
cl Pg F.hgcd_Engine_Steps [.pointer e0,a.v,b.v,.int .i64 0] w2 [.agg [.slice,.slice,.slice,.slice],.one .slice,.one .slice,.one (.int .i64)] fun (_:Sl) (r1:Sl) (_:Sl) (r3:Sl) (s:Sl) (_:Sl) (r4:Int) w3=>
nwv w3 fun w4=>
nwv w4 fun w5=>
cl Pg F.api_Nat_Zero [s.v] w5 [.one .bool] fun (ok:Bool) w6=>
cond ok (
nwv w6 fun w7=>
nwv w7 fun w8=>
R (.tuple #[.slice none 0 0,.agg #[.slice none 0 0,.bool false],.agg #[.slice none 0 0,.bool false]]) w8) (
cond ((r4:Int) == 0) (
cl Pg F.limb_One [.int .u64 1] w6 [.one .slice] fun (s2:Sl) w9=>
nwv w9 fun w10=>
nwv w10 fun w11=>
R (.tuple #[s.v,.agg #[s2.v,.bool false],.agg #[.slice none 0 0,.bool false]]) w11) (
remK r4 2 fun n=>
Jn [.slice,.bool,.slice,.bool,.slice] (fun J0=>
cond (!((n:Int) == 0)) (
cl Pg F.api_Nat_Zero [r3.v] w6.drew [.one .bool] fun (ok1:Bool) w12=>
nwv w12 fun w13=>
J0 r3 (!ok1) Sl.nil false r1 w13) (
nwv w6.drew fun w14=>
J0 r3 false Sl.nil false r1 w14)) fun (x:Sl) (x1:Bool) (_:Sl) (_:Bool) (m:Sl) w15=>
Jn [.slice,.bool,.slice,.bool] (fun J1=>
cond ((n:Int) == 0) (
cl Pg F.api_Nat_Zero [m.v] w15.drew [.one .bool] fun (ok2:Bool) w16=>
nwv w16 fun w17=>
J1 x x1 m (!ok2) w17) (
nwv w15.drew fun w18=>
J1 x x1 m false w18)) fun (x2:Sl) (x3:Bool) (y2:Sl) (y3:Bool) w19=>
nwv w19.drew fun w20=>
nwv w20 fun w21=>
R (.tuple #[s.v,.agg #[x2.v,.bool x3],.agg #[y2.v,.bool y3]]) w21))
theorem Ct.hgcd_Engine_Xgcd {e0:Option Addr} {a:Sl} {b:Sl} {w:TW} {X:Nat→Prop} {K:KT [.one .slice,.agg [.slice,.bool],.agg [.slice,.bool]]} (h:Sh.hgcd_Engine_Xgcd e0 a b (Rt X [.one .slice,.agg [.slice,.bool],.agg [.slice,.bool]] K w) w.here):Ct Pg F.hgcd_Engine_Xgcd [.pointer e0,a.v,b.v] w X [.one .slice,.agg [.slice,.bool],.agg [.slice,.bool]] K:=
 cod (Sh.hgcd_Engine_Xgcd e0 a b) 61 [(7,61),(8,63),(9,65)] [(61,2),(63,2),(65,4)] [(0,7,[(61,.one .slice),(62,.one .bool),(63,.one .slice),(64,.one .bool),(66,.one .slice)]),(0,8,[(61,.one .slice),(62,.one .bool),(63,.one .slice),(64,.one .bool)])] f79 h
def Sh.hgcd_Engine_Steps (e0:Option Addr) (a:Sl) (b:Sl) (k:Int) (R:Value→TW→Prop) (w:TW):Prop:=
nwv w fun w1=>
cl Pg F.hgcd_Unit [] w1 [.agg [.slice,.slice,.slice,.slice]] fun (r:Sl) (r1:Sl) (r2:Sl) (r3:Sl) w2=>
cl Pg F.limb_Norm [a.v] w2 [.one .slice] fun (s:Sl) w3=>
cl Pg F.limb_Norm [b.v] w3 [.one .slice] fun (s1:Sl) w4=>
nwv w4 fun w5=>
bnd (if (0:Int)>k then 0 else k) fun n=>
Jn [.slice,.slice,.int .i64,.slice,.slice,.slice,.slice] (fun J0=>
Lp [.slice,.slice,.int .i64,.slice,.slice,.slice,.slice] (fun (c:Sl) (d:Sl) (n1:Int) (m:Sl) (m1:Sl) (m2:Sl) (m3:Sl) w6 C0=>
cl Pg F.api_Nat_Bits [d.v] w6 [.one (.int .i64)] fun (r4:Int) w7=>
cond (decide ((r4:Int)>n)) (
Jn [.slice,.slice,.int .i64,.slice,.slice,.slice,.slice] (fun J1=>
cl Pg F.limb_Cmp [c.v,d.v] w7 [.one (.int .i64)] fun (r5:Int) w8=>
Jn [.slice,.slice,.int .i64,.slice,.slice,.slice,.slice] (fun J2=>
cond (decide ((r5:Int)≥0)) (
cl Pg F.lead_Find [c.v,d.v] w8 [.agg [.int .u64,.int .u64,.int .u64,.int .u64,.int .i64]] fun (r6:Int) (r7:Int) (r8:Int) (r9:Int) (r10:Int) w9=>
nwv w9 fun w10=>
nwv w10 fun w11=>
cl Pg F.lead_Row_Apply [.agg #[.int .u64 r6,.int .u64 r7,.int .u64 r8,.int .u64 r9,.int .i64 r10],c.v,d.v] w11 [.one .slice,.one .slice] fun (s2:Sl) (s3:Sl) w12=>
Jn [.bool,.slice,.slice,.slice,.slice,.int .u64,.int .u64,.int .u64,.int .u64,.int .i64] (fun J3=>
cond (decide ((r10:Int)>0)) (
cl Pg F.api_Nat_Bits [s2.v] w12 [.one (.int .i64)] fun (r11:Int) w13=>
J3 (decide ((r11:Int)>n)) m m1 m2 m3 r6 r7 r8 r9 r10 w13) (
J3 false m m1 m2 m3 r6 r7 r8 r9 r10 w12)) fun (x:Bool) (m4:Sl) (m5:Sl) (m6:Sl) (m7:Sl) (row:Int) (row1:Int) (row2:Int) (row3:Int) (row4:Int) w14=>
cond x (
bnd (wi (n1+row4)) fun n2=>
cl Pg F.hgcd_behind [.agg #[m4.v,m5.v,m6.v,m7.v],.agg #[.int .u64 row,.int .u64 row1,.int .u64 row2,.int .u64 row3,.int .i64 row4]] w14.drew [.agg [.slice,.slice,.slice,.slice]] fun (r12:Sl) (r13:Sl) (r14:Sl) (r15:Sl) w15=>
nwv w15 fun w16=>
J1 s2 s3 n2 r12 r13 r14 r15 w16) (
J2 c d n1 m4 m5 m6 m7 w14)) (
J2 c d n1 m m1 m2 m3 w8)) fun (c1:Sl) (d1:Sl) (n3:Int) (m8:Sl) (m9:Sl) (m10:Sl) (m11:Sl) w17=>
nck e0 fun a1=>
ldc (.ptr) w17 a1 fun (v:Option Addr)=>
nck v fun a2=>
ldc (.ptr) w17 a2 fun (v1:Option Addr)=>
nck v1 fun a3=>
ldc (.ptr) w17 a3 fun (v2:Option Addr)=>
nck v2 fun a4=>
ldc (.ptr) w17 a4 fun (v3:Option Addr)=>
nck v3 fun a5=>
ldc (.ptr) w17 a5 fun (v4:Option Addr)=>
nck v4 fun a6=>
ldc (.ptr) w17 a6 fun (v5:Option Addr)=>
cl Pg F.div_Engine_DivMod [.pointer v5,c1.v,d1.v] w17 [.one .slice,.one .slice,.one (.int .i64)] fun (s4:Sl) (s5:Sl) (_:Int) w18=>
cl Pg F.hgcd_Engine_one [.pointer e0,.agg #[m8.v,m9.v,m10.v,m11.v],s4.v] w18 [.agg [.slice,.slice,.slice,.slice]] fun (r17:Sl) (r18:Sl) (r19:Sl) (r20:Sl) w19=>
bnd (wi (n3+1)) fun n4=>
nwv w19 fun w20=>
J1 d1 s5 n4 r17 r18 r19 r20 w20) fun (c2:Sl) (d2:Sl) (n5:Int) (m12:Sl) (m13:Sl) (m14:Sl) (m15:Sl) w21=>
C0 c2 d2 n5 m12 m13 m14 m15 w21) (
J0 c d n1 m m1 m2 m3 w7)) s s1 0 r r1 r2 r3 w5) fun (c3:Sl) (d3:Sl) (n6:Int) (m16:Sl) (m17:Sl) (m18:Sl) (m19:Sl) w22=>
cl Pg F.hgcd_norm [.agg #[m16.v,m17.v,m18.v,m19.v]] w22 [.agg [.slice,.slice,.slice,.slice]] fun (r21:Sl) (r22:Sl) (r23:Sl) (r24:Sl) w23=>
nwv w23 fun w24=>
R (.tuple #[.agg #[r21.v,r22.v,r23.v,r24.v],c3.v,d3.v,.int .i64 n6]) w24
theorem Ct.hgcd_Engine_Steps {e0:Option Addr} {a:Sl} {b:Sl} {k:Int} {w:TW} {X:Nat→Prop} {K:KT [.agg [.slice,.slice,.slice,.slice],.one .slice,.one .slice,.one (.int .i64)]} (h:Sh.hgcd_Engine_Steps e0 a b k (Rt X [.agg [.slice,.slice,.slice,.slice],.one .slice,.one .slice,.one (.int .i64)] K w) w.here):Ct Pg F.hgcd_Engine_Steps [.pointer e0,a.v,b.v,.int .i64 k] w X [.agg [.slice,.slice,.slice,.slice],.one .slice,.one .slice,.one (.int .i64)] K:=
 cod (Sh.hgcd_Engine_Steps e0 a b k) 100 [(8,100),(12,104)] [(100,4),(104,5)] [(2,0,[(9,.one .slice),(10,.one .slice),(11,.one (.int .i64)),(100,.one .slice),(101,.one .slice),(102,.one .slice),(103,.one .slice)]),(3,3,[(9,.one .slice),(10,.one .slice),(11,.one (.int .i64)),(100,.one .slice),(101,.one .slice),(102,.one .slice),(103,.one .slice)]),(2,1,[(9,.one .slice),(10,.one .slice),(11,.one (.int .i64)),(100,.one .slice),(101,.one .slice),(102,.one .slice),(103,.one .slice)]),(1,5,[(9,.one .slice),(10,.one .slice),(11,.one (.int .i64)),(100,.one .slice),(101,.one .slice),(102,.one .slice),(103,.one .slice)]),(0,7,[(51,.one .bool),(100,.one .slice),(101,.one .slice),(102,.one .slice),(103,.one .slice),(104,.one (.int .u64)),(105,.one (.int .u64)),(106,.one (.int .u64)),(107,.one (.int .u64)),(108,.one (.int .i64))])] f117 h
def Sh.hgcd_Unit (R:Value→TW→Prop) (w:TW):Prop:=
nwv w fun w1=>
cl Pg F.limb_One [.int .u64 1] w1 [.one .slice] fun (s:Sl) w2=>
cl Pg F.limb_One [.int .u64 1] w2 [.one .slice] fun (s1:Sl) w3=>
nwv w3 fun w4=>
R (.agg #[s.v,.slice none 0 0,.slice none 0 0,s1.v]) w4
theorem Ct.hgcd_Unit {w:TW} {X:Nat→Prop} {K:KT [.agg [.slice,.slice,.slice,.slice]]} (h:Sh.hgcd_Unit (Rt X [.agg [.slice,.slice,.slice,.slice]] K w) w.here):Ct Pg F.hgcd_Unit [] w X [.agg [.slice,.slice,.slice,.slice]] K:=
 cod Sh.hgcd_Unit 4 [(0,4)] [(4,4)] [] f145 h
def Sh.hgcd_behind (m0:Sl) (m1:Sl) (m2:Sl) (m3:Sl) (r0:Int) (r1:Int) (r2:Int) (r3:Int) (r4:Int) (R:Value→TW→Prop) (w:TW):Prop:=
nwv w fun w1=>
nwv w1 fun w2=>
nwv w2 fun w3=>
cl Pg F.hgcd_by [m0.v,m1.v,.int .u64 r3,.int .u64 r1,.int .u64 r2,.int .u64 r0] w3 [.one .slice,.one .slice] fun (s:Sl) (s1:Sl) w4=>
nwv w4 fun w5=>
nwv w5 fun w6=>
cl Pg F.hgcd_by [m2.v,m3.v,.int .u64 r3,.int .u64 r1,.int .u64 r2,.int .u64 r0] w6 [.one .slice,.one .slice] fun (s2:Sl) (s3:Sl) w7=>
nwv w7 fun w8=>
nwv w8 fun w9=>
nwv w9 fun w10=>
R (.agg #[s.v,s1.v,s2.v,s3.v]) w10
theorem Ct.hgcd_behind {m0:Sl} {m1:Sl} {m2:Sl} {m3:Sl} {r0:Int} {r1:Int} {r2:Int} {r3:Int} {r4:Int} {w:TW} {X:Nat→Prop} {K:KT [.agg [.slice,.slice,.slice,.slice]]} (h:Sh.hgcd_behind m0 m1 m2 m3 r0 r1 r2 r3 r4 (Rt X [.agg [.slice,.slice,.slice,.slice]] K w) w.here):Ct Pg F.hgcd_behind [.agg #[m0.v,m1.v,m2.v,m3.v],.agg #[.int .u64 r0,.int .u64 r1,.int .u64 r2,.int .u64 r3,.int .i64 r4]] w X [.agg [.slice,.slice,.slice,.slice]] K:=
 cod (Sh.hgcd_behind m0 m1 m2 m3 r0 r1 r2 r3 r4) 42 [(2,42),(3,46),(4,51)] [(42,4),(46,5),(51,4)] [] f148 h
def Sh.hgcd_Engine_one (e0:Option Addr) (m0:Sl) (m1:Sl) (m2:Sl) (m3:Sl) (q:Sl) (R:Value→TW→Prop) (w:TW):Prop:=
nwv w fun w1=>
nwv w1 fun w2=>
nck e0 fun a=>
ldc (.ptr) w2.drew a fun (v:Option Addr)=>
nck v fun a1=>
ldc (.ptr) w2.drew a1 fun (v1:Option Addr)=>
nck v1 fun a2=>
ldc (.ptr) w2.drew a2 fun (v2:Option Addr)=>
nck v2 fun a3=>
ldc (.ptr) w2.drew a3 fun (v3:Option Addr)=>
nck v3 fun a4=>
ldc (.ptr) w2.drew a4 fun (v4:Option Addr)=>
nck v4 fun a5=>
ldc (.ptr) w2.drew a5 fun (v5:Option Addr)=>
nck v5 fun a6=>
ldc (.ptr) w2.drew a6 fun (v6:Option Addr)=>
nck v6 fun a7=>
ldc (.ptr) w2.drew a7 fun (v7:Option Addr)=>
nck v7 fun a8=>
ldc (.ptr) w2.drew a8 fun (v8:Option Addr)=>
nck e0 fun a9=>
ldc (.ptr) w2.drew a9 fun (v9:Option Addr)=>
nck v9 fun a10=>
ldc (.ptr) w2.drew a10 fun (v10:Option Addr)=>
nck v10 fun a11=>
ldc (.ptr) w2.drew a11 fun (v11:Option Addr)=>
nck v11 fun a12=>
ldc (.ptr) w2.drew a12 fun (v12:Option Addr)=>
nck v12 fun a13=>
ldc (.ptr) w2.drew a13 fun (v13:Option Addr)=>
nck v13 fun a14=>
ldc (.ptr) w2.drew a14 fun (v14:Option Addr)=>
nck v14 fun a15=>
ldc (.ptr) w2.drew a15 fun (v15:Option Addr)=>
nck v15 fun a16=>
ldc (.ptr) w2.drew a16 fun (v16:Option Addr)=>
nck v16 fun a17=>
ldc (.ptr) w2.drew a17 fun (v17:Option Addr)=>
cl Pg F.mul_Engine_Mul [.pointer v8,m0.v,q.v] w2.drew [.one .slice] fun (s:Sl) w3=>
hld w3 [(a17,.pointer v17),(a16,.pointer v16),(a15,.pointer v15),(a14,.pointer v14),(a13,.pointer v13),(a12,.pointer v12),(a11,.pointer v11),(a10,.pointer v10),(a9,.pointer v9),(a7,.pointer v7),(a6,.pointer v6),(a5,.pointer v5),(a4,.pointer v4),(a3,.pointer v3),(a2,.pointer v2),(a1,.pointer v1),(a,.pointer v)] <|
cl Pg F.limb_Add [s.v,m1.v] w3 [.one .slice] fun (s1:Sl) w4=>
hld w4 [(a17,.pointer v17),(a16,.pointer v16),(a15,.pointer v15),(a14,.pointer v14),(a13,.pointer v13),(a12,.pointer v12),(a11,.pointer v11),(a10,.pointer v10),(a9,.pointer v9),(a7,.pointer v7),(a6,.pointer v6),(a5,.pointer v5),(a4,.pointer v4),(a3,.pointer v3),(a2,.pointer v2),(a1,.pointer v1),(a,.pointer v)] <|
cl Pg F.mul_Engine_Mul [.pointer v17,m2.v,q.v] w4 [.one .slice] fun (s2:Sl) w5=>
hld w5 [(a16,.pointer v16),(a15,.pointer v15),(a14,.pointer v14),(a13,.pointer v13),(a12,.pointer v12),(a11,.pointer v11),(a10,.pointer v10),(a9,.pointer v9),(a7,.pointer v7),(a6,.pointer v6),(a5,.pointer v5),(a4,.pointer v4),(a3,.pointer v3),(a2,.pointer v2),(a1,.pointer v1),(a,.pointer v)] <|
cl Pg F.limb_Add [s2.v,m3.v] w5 [.one .slice] fun (s3:Sl) w6=>
hld w6 [(a16,.pointer v16),(a15,.pointer v15),(a14,.pointer v14),(a13,.pointer v13),(a12,.pointer v12),(a11,.pointer v11),(a10,.pointer v10),(a9,.pointer v9),(a7,.pointer v7),(a6,.pointer v6),(a5,.pointer v5),(a4,.pointer v4),(a3,.pointer v3),(a2,.pointer v2),(a1,.pointer v1),(a,.pointer v)] <|
nwv w6 fun w7=>
R (.agg #[s1.v,m0.v,s3.v,m2.v]) w7
theorem Ct.hgcd_Engine_one {e0:Option Addr} {m0:Sl} {m1:Sl} {m2:Sl} {m3:Sl} {q:Sl} {w:TW} {X:Nat→Prop} {K:KT [.agg [.slice,.slice,.slice,.slice]]} (h:Sh.hgcd_Engine_one e0 m0 m1 m2 m3 q (Rt X [.agg [.slice,.slice,.slice,.slice]] K w) w.here):Ct Pg F.hgcd_Engine_one [.pointer e0,.agg #[m0.v,m1.v,m2.v,m3.v],q.v] w X [.agg [.slice,.slice,.slice,.slice]] K:=
 cod (Sh.hgcd_Engine_one e0 m0 m1 m2 m3 q) 82 [(4,82),(6,86)] [(82,4),(86,4)] [] f149 h
def Sh.hgcd_norm (m0:Sl) (m1:Sl) (m2:Sl) (m3:Sl) (R:Value→TW→Prop) (w:TW):Prop:=
nwv w fun w1=>
nwv w1 fun w2=>
cl Pg F.limb_Norm [m0.v] w2.drew [.one .slice] fun (s:Sl) w3=>
cl Pg F.limb_Norm [m1.v] w3 [.one .slice] fun (s1:Sl) w4=>
cl Pg F.limb_Norm [m2.v] w4 [.one .slice] fun (s2:Sl) w5=>
cl Pg F.limb_Norm [m3.v] w5 [.one .slice] fun (s3:Sl) w6=>
nwv w6 fun w7=>
R (.agg #[s.v,s1.v,s2.v,s3.v]) w7
theorem Ct.hgcd_norm {m0:Sl} {m1:Sl} {m2:Sl} {m3:Sl} {w:TW} {X:Nat→Prop} {K:KT [.agg [.slice,.slice,.slice,.slice]]} (h:Sh.hgcd_norm m0 m1 m2 m3 (Rt X [.agg [.slice,.slice,.slice,.slice]] K w) w.here):Ct Pg F.hgcd_norm [.agg #[m0.v,m1.v,m2.v,m3.v]] w X [.agg [.slice,.slice,.slice,.slice]] K:=
 cod (Sh.hgcd_norm m0 m1 m2 m3) 16 [(1,16),(2,20)] [(16,4),(20,4)] [] f150 h
def Sh.hgcd_by (x:Sl) (y:Sl) (p:Int) (q:Int) (r:Int) (s:Int) (R:Value→TW→Prop) (w:TW):Prop:=
cl Pg F.limb_MulWord [x.v,.int .u64 p] w [.one .slice] fun (s1:Sl) w1=>
cl Pg F.limb_AddMul [s1.v,y.v,.int .u64 r] w1 [.one .slice] fun (s2:Sl) w2=>
cl Pg F.limb_MulWord [x.v,.int .u64 q] w2 [.one .slice] fun (s3:Sl) w3=>
cl Pg F.limb_AddMul [s3.v,y.v,.int .u64 s] w3 [.one .slice] fun (s4:Sl) w4=>
R (.tuple #[s2.v,s4.v]) w4
theorem Ct.hgcd_by {x:Sl} {y:Sl} {p:Int} {q:Int} {r:Int} {s:Int} {w:TW} {X:Nat→Prop} {K:KT [.one .slice,.one .slice]} (h:Sh.hgcd_by x y p q r s (Rt X [.one .slice,.one .slice] K w) w.here):Ct Pg F.hgcd_by [x.v,y.v,.int .u64 p,.int .u64 q,.int .u64 r,.int .u64 s] w X [.one .slice,.one .slice] K:=
 cod (Sh.hgcd_by x y p q r s) 26 [] [] [] f182 h
end Go.Proofs.YtjhfalgmgagdhaaGreatDoor.Zg
end

section
set_option maxRecDepth 100000
namespace Go.Proofs.YtjhfalgmgagdhaaGreatDoor.Zg
open Go.Proofs.Tryz
def Sh.kara_Engine_Kara (e0:Option Addr) (a:Sl) (b:Sl) (inner:Value) (R:Value→TW→Prop) (w:TW):Prop:=
Jn [.slice,.slice] (fun J0=>
cond (decide (((a.n:Int):Int)<(b.n:Int))) (
J0 b a w) (
J0 a b w)) fun (a1:Sl) (b1:Sl) w1=>
bnd (wi ((a1.n:Int)+1)) fun n=>
divK .i64 n 2 fun n1=>
cond (decide (((b1.n:Int):Int)≤n1)) (
R (.tuple #[.slice none 0 0,.bool false]) w1) (
nck e0 fun a2=>
ldc (.ptr) w1 a2 fun (v:Option Addr)=>
nck v fun a3=>
ldc (.ptr) w1 a3 fun (v1:Option Addr)=>
nck v1 fun a4=>
cl Pg F.meter_Meter_Enter [.pointer (some a4)] w1 [.one (.int .i64)] fun (_:Int) w2=>
cl Pg F.kara_piece [a1.v,.int .i64 0,.int .i64 n1] w2 [.one .slice] fun (s:Sl) w3=>
bnd (wi ((a1.n:Int)-n1)) fun n2=>
cl Pg F.kara_piece [a1.v,.int .i64 n1,.int .i64 n2] w3 [.one .slice] fun (s1:Sl) w4=>
cl Pg F.kara_piece [b1.v,.int .i64 0,.int .i64 n1] w4 [.one .slice] fun (s2:Sl) w5=>
bnd (wi ((b1.n:Int)-n1)) fun n3=>
cl Pg F.kara_piece [b1.v,.int .i64 n1,.int .i64 n3] w5 [.one .slice] fun (s3:Sl) w6=>
cl Pg F.limb_Add [s.v,s1.v] w6 [.one .slice] fun (s4:Sl) w7=>
bnd (wi (n1+1)) fun n4=>
cl Pg F.kara_wide [s4.v,.int .i64 n4] w7 [.one .slice] fun (s5:Sl) w8=>
cl Pg F.limb_Add [s2.v,s3.v] w8 [.one .slice] fun (s6:Sl) w9=>
bnd (wi (n1+1)) fun n5=>
cl Pg F.kara_wide [s6.v,.int .i64 n5] w9 [.one .slice] fun (s7:Sl) w10=>
clv Pg inner [s.v,s2.v] w10 [.one .slice] fun (s8:Sl) w11=>
clv Pg inner [s1.v,s3.v] w11 [.one .slice] fun (s9:Sl) w12=>
clv Pg inner [s5.v,s7.v] w12 [.one .slice] fun (s10:Sl) w13=>
nck e0 fun a5=>
ldc (.ptr) w13 a5 fun (v2:Option Addr)=>
nck v2 fun a6=>
ldc (.ptr) w13 a6 fun (v3:Option Addr)=>
nck v3 fun a7=>
cl Pg F.meter_Meter_Leave [.pointer (some a7)] w13 [.one (.int .i64)] fun (_:Int) w14=>
cl Pg F.limb_Add [s8.v,s9.v] w14 [.one .slice] fun (s11:Sl) w15=>
cl Pg F.limb_Sub [s10.v,s11.v] w15 [.one .slice,.one .bool] fun (s12:Sl) (_:Bool) w16=>
nwb w16 [s8.v,s12.v,s9.v] T.api_Nat fun b2 w17=>
cl Pg F.limb_Join [.int .i64 n1,.slice (some ⟨b2,0,none⟩) 3 3] w17 [.one .slice] fun (s13:Sl) w18=>
R (.tuple #[s13.v,.bool true]) w18)
theorem Ct.kara_Engine_Kara {e0:Option Addr} {a:Sl} {b:Sl} {inner:Value} {w:TW} {X:Nat→Prop} {K:KT [.one .slice,.one .bool]} (h:Sh.kara_Engine_Kara e0 a b inner (Rt X [.one .slice,.one .bool] K w) w.here):Ct Pg F.kara_Engine_Kara [.pointer e0,a.v,b.v,inner] w X [.one .slice,.one .bool] K:=
 cod (Sh.kara_Engine_Kara e0 a b inner) 117 [] [] [(1,2,[(1,.one .slice),(2,.one .slice)])] f160 h
def Sh.kara_piece (a:Sl) (from0:Int) (n:Int) (R:Value→TW→Prop) (w:TW):Prop:=
mks w n n T.uint64 8 [.int .u64 0] fun s w1=>
Jn [] (fun J0=>
cond (decide ((from0:Int)<(a.n:Int))) (
bnd (wi (from0+n)) fun n1=>
bnd (if (n1:Int)<(a.n:Int) then n1 else (a.n:Int)) fun n2=>
slc a from0 n2 1 fun s1=>
cpy w1 T.uint64 s s1 fun _ w2=>
J0 w2) (
J0 w1)) fun  w3=>
R (s.v) w3
theorem Ct.kara_piece {a:Sl} {from0:Int} {n:Int} {w:TW} {X:Nat→Prop} {K:KT [.one .slice]} (h:Sh.kara_piece a from0 n (Rt X [.one .slice] K w) w.here):Ct Pg F.kara_piece [a.v,.int .i64 from0,.int .i64 n] w X [.one .slice] K:=
 cod (Sh.kara_piece a from0 n) 26 [] [] [(1,3,[])] f187 h
def Sh.kara_wide (a:Sl) (n:Int) (R:Value→TW→Prop) (w:TW):Prop:=
cl Pg F.kara_piece [a.v,.int .i64 0,.int .i64 n] w [.one .slice] fun (s:Sl) w1=>
R (s.v) w1
theorem Ct.kara_wide {a:Sl} {n:Int} {w:TW} {X:Nat→Prop} {K:KT [.one .slice]} (h:Sh.kara_wide a n (Rt X [.one .slice] K w) w.here):Ct Pg F.kara_wide [a.v,.int .i64 n] w X [.one .slice] K:=
 cod (Sh.kara_wide a n) 8 [] [] [] f188 h
def Sh.kara_New (t:HL I11) (R:Value→TW→Prop) (w:TW):Prop:=
nwv w fun w1=>
cl Pg F.school_New [.agg (encs I11 t).toArray] w1 [.one .ptr] fun (p:Option Addr) w2=>
nwb w2 [.pointer p] T.kara_Engine fun b w3=>
R (.pointer (some ⟨b,0,none⟩)) w3
theorem Ct.kara_New {t:HL I11} {w:TW} {X:Nat→Prop} {K:KT [.one .ptr]} (h:Sh.kara_New t (Rt X [.one .ptr] K w) w.here):Ct Pg F.kara_New [.agg (encs I11 t).toArray] w X [.one .ptr] K:=
 cod (Sh.kara_New t) 7 [(1,7)] [(7,11)] [] f243 h
end Go.Proofs.YtjhfalgmgagdhaaGreatDoor.Zg
end

section
set_option maxRecDepth 100000
namespace Go.Proofs.YtjhfalgmgagdhaaGreatDoor.Zg
open Go.Proofs.Tryz
def Sh.lead_Find (a:Sl) (b:Sl) (R:Value→TW→Prop) (w:TW):Prop:=
nwv w fun w1=>
cl Pg F.api_Nat_Bits [a.v] w1 [.one (.int .i64)] fun (r:Int) w2=>
cl Pg F.lead_word [a.v,.int .i64 r] w2 [.one (.int .u64)] fun (r1:Int) w3=>
cl Pg F.api_Nat_Bits [a.v] w3 [.one (.int .i64)] fun (r2:Int) w4=>
cl Pg F.lead_word [b.v,.int .i64 r2] w4 [.one (.int .u64)] fun (r3:Int) w5=>
cl Pg F.lead_words [.int .u64 r1,.int .u64 r3] w5 [.agg [.int .u64,.int .u64,.int .u64,.int .u64,.int .i64]] fun (r4:Int) (r5:Int) (r6:Int) (r7:Int) (r8:Int) w6=>
nwv w6 fun w7=>
R (.agg #[.int .u64 r4,.int .u64 r5,.int .u64 r6,.int .u64 r7,.int .i64 r8]) w7
theorem Ct.lead_Find {a:Sl} {b:Sl} {w:TW} {X:Nat→Prop} {K:KT [.agg [.int .u64,.int .u64,.int .u64,.int .u64,.int .i64]]} (h:Sh.lead_Find a b (Rt X [.agg [.int .u64,.int .u64,.int .u64,.int .u64,.int .i64]] K w) w.here):Ct Pg F.lead_Find [a.v,b.v] w X [.agg [.int .u64,.int .u64,.int .u64,.int .u64,.int .i64]] K:=
 cod (Sh.lead_Find a b) 14 [(4,14)] [(14,5)] [] f146 h
def Sh.lead_Row_Apply (r0:Int) (r1:Int) (r2:Int) (r3:Int) (r4:Int) (a:Sl) (b:Sl) (R:Value→TW→Prop) (w:TW):Prop:=
nwv w fun w1=>
remK r4 2 fun n=>
cond ((n:Int) == 1) (
cl Pg F.lead_less [b.v,.int .u64 r1,a.v,.int .u64 r0] w1.drew [.one .slice] fun (s:Sl) w2=>
cl Pg F.lead_less [a.v,.int .u64 r2,b.v,.int .u64 r3] w2 [.one .slice] fun (s1:Sl) w3=>
R (.tuple #[s.v,s1.v]) w3) (
cl Pg F.lead_less [a.v,.int .u64 r0,b.v,.int .u64 r1] w1.drew [.one .slice] fun (s2:Sl) w4=>
cl Pg F.lead_less [b.v,.int .u64 r3,a.v,.int .u64 r2] w4 [.one .slice] fun (s3:Sl) w5=>
R (.tuple #[s2.v,s3.v]) w5)
theorem Ct.lead_Row_Apply {r0:Int} {r1:Int} {r2:Int} {r3:Int} {r4:Int} {a:Sl} {b:Sl} {w:TW} {X:Nat→Prop} {K:KT [.one .slice,.one .slice]} (h:Sh.lead_Row_Apply r0 r1 r2 r3 r4 a b (Rt X [.one .slice,.one .slice] K w) w.here):Ct Pg F.lead_Row_Apply [.agg #[.int .u64 r0,.int .u64 r1,.int .u64 r2,.int .u64 r3,.int .i64 r4],a.v,b.v] w X [.one .slice,.one .slice] K:=
 cod (Sh.lead_Row_Apply r0 r1 r2 r3 r4 a b) 40 [(3,40)] [(40,5)] [] f147 h
def Sh.lead_words (x:Int) (y:Int) (R:Value→TW→Prop) (w:TW):Prop:=
nwv w fun w1=>
nwv w1 fun w2=>
nwv w2 fun w3=>
Jn [.int .u64,.int .u64,.int .u64,.int .u64,.int .i64,.int .u64,.int .u64,.int .u64,.int .u64,.int .i64] (fun J0=>
Lp [.int .u64,.int .u64,.int .u64,.int .u64,.int .u64,.int .u64,.int .i64,.int .u64,.int .u64,.int .u64,.int .u64,.int .i64] (fun (x1:Int) (y1:Int) (x2:Int) (x3:Int) (x4:Int) (x5:Int) (x6:Int) (r:Int) (r1:Int) (r2:Int) (r3:Int) (r4:Int) w4 C0=>
Jn [.bool,.int .u64,.int .u64,.int .u64,.int .u64,.int .i64,.int .u64,.int .u64,.int .u64,.int .u64,.int .i64] (fun J1=>
cond (decide ((r2:Int)<1073741824)) (
J1 (decide ((r3:Int)<1073741824)) x2 x3 x4 x5 x6 r r1 r2 r3 r4 w4) (
J1 false x2 x3 x4 x5 x6 r r1 r2 r3 r4 w4)) fun (x7:Bool) (x8:Int) (x9:Int) (x10:Int) (x11:Int) (x12:Int) (r5:Int) (r6:Int) (r7:Int) (r8:Int) (r9:Int) w5=>
cond x7 (
cl Pg F.lead_Row_quotient [.agg #[.int .u64 r5,.int .u64 r6,.int .u64 r7,.int .u64 r8,.int .i64 r9],.int .u64 x1,.int .u64 y1] w5 [.one (.int .u64),.one .bool] fun (r10:Int) (ok:Bool) w6=>
cond (!ok) (
J0 x8 x9 x10 x11 x12 r5 r6 r7 r8 r9 w6) (
bnd (wu (r10*y1)) fun n=>
bnd (wu (x1-n)) fun n1=>
cl Pg F.lead_Row_next [.agg #[.int .u64 r5,.int .u64 r6,.int .u64 r7,.int .u64 r8,.int .i64 r9],.int .u64 r10] w6 [.agg [.int .u64,.int .u64,.int .u64,.int .u64,.int .i64]] fun (r11:Int) (r12:Int) (r13:Int) (r14:Int) (r15:Int) w7=>
nwv w7 fun w8=>
C0 y1 n1 x8 x9 x10 x11 x12 r11 r12 r13 r14 r15 w8)) (
J0 x8 x9 x10 x11 x12 r5 r6 r7 r8 r9 w5)) x y 0 0 0 0 0 1 0 0 1 0 w3) fun (_:Int) (_:Int) (_:Int) (_:Int) (_:Int) (r16:Int) (r17:Int) (r18:Int) (r19:Int) (r20:Int) w9=>
nwv w9 fun w10=>
R (.agg #[.int .u64 r16,.int .u64 r17,.int .u64 r18,.int .u64 r19,.int .i64 r20]) w10
theorem Ct.lead_words {x:Int} {y:Int} {w:TW} {X:Nat→Prop} {K:KT [.agg [.int .u64,.int .u64,.int .u64,.int .u64,.int .i64]]} (h:Sh.lead_words x y (Rt X [.agg [.int .u64,.int .u64,.int .u64,.int .u64,.int .i64]] K w) w.here):Ct Pg F.lead_words [.int .u64 x,.int .u64 y] w X [.agg [.int .u64,.int .u64,.int .u64,.int .u64,.int .i64]] K:=
 cod (Sh.lead_words x y) 36 [(4,36),(5,41)] [(36,5),(41,5)] [(2,0,[(36,.one (.int .u64)),(37,.one (.int .u64)),(38,.one (.int .u64)),(39,.one (.int .u64)),(40,.one (.int .i64)),(41,.one (.int .u64)),(42,.one (.int .u64)),(43,.one (.int .u64)),(44,.one (.int .u64)),(45,.one (.int .i64))]),(3,2,[(0,.one (.int .u64)),(1,.one (.int .u64)),(36,.one (.int .u64)),(37,.one (.int .u64)),(38,.one (.int .u64)),(39,.one (.int .u64)),(40,.one (.int .i64)),(41,.one (.int .u64)),(42,.one (.int .u64)),(43,.one (.int .u64)),(44,.one (.int .u64)),(45,.one (.int .i64))]),(0,2,[(16,.one .bool),(36,.one (.int .u64)),(37,.one (.int .u64)),(38,.one (.int .u64)),(39,.one (.int .u64)),(40,.one (.int .i64)),(41,.one (.int .u64)),(42,.one (.int .u64)),(43,.one (.int .u64)),(44,.one (.int .u64)),(45,.one (.int .i64))])] f179 h
def Sh.lead_word (a:Sl) (digits:Int) (R:Value→TW→Prop) (w:TW):Prop:=
bnd (wi (digits-62)) fun n=>
bnd (if (n:Int)>0 then n else 0) fun n1=>
cl Pg F.limb_Shr [a.v,.int .i64 n1] w [.one .slice] fun (s:Sl) w1=>
cl Pg F.api_Nat_Zero [s.v] w1 [.one .bool] fun (ok:Bool) w2=>
cond ok (
R (.int .u64 0) w2) (
ixa s 0 1 fun a1=>
ldc (.int .u64) w2 a1 fun (v:Int)=>
R (.int .u64 v) w2)
theorem Ct.lead_word {a:Sl} {digits:Int} {w:TW} {X:Nat→Prop} {K:KT [.one (.int .u64)]} (h:Sh.lead_word a digits (Rt X [.one (.int .u64)] K w) w.here):Ct Pg F.lead_word [a.v,.int .i64 digits] w X [.one (.int .u64)] K:=
 cod (Sh.lead_word a digits) 16 [] [] [] f180 h
def Sh.lead_less (a:Sl) (p:Int) (b:Sl) (q:Int) (R:Value→TW→Prop) (w:TW):Prop:=
cl Pg F.limb_MulWord [a.v,.int .u64 p] w [.one .slice] fun (s:Sl) w1=>
cl Pg F.limb_SubMul [s.v,b.v,.int .u64 q] w1 [.one .slice,.one .bool] fun (s1:Sl) (_:Bool) w2=>
R (s1.v) w2
theorem Ct.lead_less {a:Sl} {p:Int} {b:Sl} {q:Int} {w:TW} {X:Nat→Prop} {K:KT [.one .slice]} (h:Sh.lead_less a p b q (Rt X [.one .slice] K w) w.here):Ct Pg F.lead_less [a.v,.int .u64 p,b.v,.int .u64 q] w X [.one .slice] K:=
 cod (Sh.lead_less a p b q) 21 [] [] [] f181 h
def Sh.lead_Row_quotient (r0:Int) (r1:Int) (r2:Int) (r3:Int) (r4:Int) (x:Int) (y:Int) (R:Value→TW→Prop) (w:TW):Prop:=
nwv w fun w1=>
remK r4 2 fun n=>
Jn [.int .u64,.int .u64,.int .u64,.int .u64] (fun J0=>
cond ((n:Int) == 1) (
J0 r0 r1 r3 r2 w1.drew.drew) (
J0 r1 r0 r2 r3 w1.drew)) fun (lessX:Int) (moreX:Int) (lessY:Int) (moreY:Int) w2=>
Jn [.bool] (fun J1=>
cond (decide ((x:Int)<lessX)) (
J1 true w2) (
J1 (decide ((y:Int)≤lessY)) w2)) fun (x1:Bool) w3=>
cond x1 (
R (.tuple #[.int .u64 0,.bool false]) w3) (
bnd (wu (x-lessX)) fun n1=>
bnd (wu (y+moreY)) fun n2=>
divK .u64 n1 n2 fun n3=>
bnd (wu (x+moreX)) fun n4=>
bnd (wu (y-lessY)) fun n5=>
divK .u64 n4 n5 fun n6=>
Jn [.int .u64,.bool] (fun J2=>
cond ((n3:Int) == n6) (
J2 n3 (decide ((n3:Int)<2147483648)) w3.drew) (
J2 n3 false w3.drew)) fun (x2:Int) (x3:Bool) w4=>
R (.tuple #[.int .u64 x2,.bool x3]) w4)
theorem Ct.lead_Row_quotient {r0:Int} {r1:Int} {r2:Int} {r3:Int} {r4:Int} {x:Int} {y:Int} {w:TW} {X:Nat→Prop} {K:KT [.one (.int .u64),.one .bool]} (h:Sh.lead_Row_quotient r0 r1 r2 r3 r4 x y (Rt X [.one (.int .u64),.one .bool] K w) w.here):Ct Pg F.lead_Row_quotient [.agg #[.int .u64 r0,.int .u64 r1,.int .u64 r2,.int .u64 r3,.int .i64 r4],.int .u64 x,.int .u64 y] w X [.one (.int .u64),.one .bool] K:=
 cod (Sh.lead_Row_quotient r0 r1 r2 r3 r4 x y) 64 [(3,64)] [(64,5)] [(1,3,[(8,.one (.int .u64)),(9,.one (.int .u64)),(10,.one (.int .u64)),(11,.one (.int .u64))]),(0,4,[(41,.one .bool)]),(0,7,[(6,.one (.int .u64)),(7,.one .bool)])] f206 h
def Sh.lead_Row_next (r0:Int) (r1:Int) (r2:Int) (r3:Int) (r4:Int) (k:Int) (R:Value→TW→Prop) (w:TW):Prop:=
nwv w fun w1=>
nwv w1 fun w2=>
bnd (wu (k*r2)) fun n=>
bnd (wu (r0+n)) fun n1=>
bnd (wu (k*r3)) fun n2=>
bnd (wu (r1+n2)) fun n3=>
bnd (wi (r4+1)) fun n4=>
nwv w2 fun w3=>
R (.agg #[.int .u64 r2,.int .u64 r3,.int .u64 n1,.int .u64 n3,.int .i64 n4]) w3
theorem Ct.lead_Row_next {r0:Int} {r1:Int} {r2:Int} {r3:Int} {r4:Int} {k:Int} {w:TW} {X:Nat→Prop} {K:KT [.agg [.int .u64,.int .u64,.int .u64,.int .u64,.int .i64]]} (h:Sh.lead_Row_next r0 r1 r2 r3 r4 k (Rt X [.agg [.int .u64,.int .u64,.int .u64,.int .u64,.int .i64]] K w) w.here):Ct Pg F.lead_Row_next [.agg #[.int .u64 r0,.int .u64 r1,.int .u64 r2,.int .u64 r3,.int .i64 r4],.int .u64 k] w X [.agg [.int .u64,.int .u64,.int .u64,.int .u64,.int .i64]] K:=
 cod (Sh.lead_Row_next r0 r1 r2 r3 r4 k) 27 [(2,27),(4,32)] [(27,5),(32,5)] [] f207 h
end Go.Proofs.YtjhfalgmgagdhaaGreatDoor.Zg
end

section
set_option maxRecDepth 100000
namespace Go.Proofs.YtjhfalgmgagdhaaGreatDoor.Zg
open Go.Proofs.Tryz
def Sh.limb_One (y:Int) (R:Value→TW→Prop) (w:TW):Prop:=
cond ((y:Int) == 0) (
R (.slice none 0 0) w) (
nwb w [.int .u64 y] T.uint64 fun b w1=>
R (.slice (some ⟨b,0,none⟩) 1 1) w1)
theorem Ct.limb_One {y:Int} {w:TW} {X:Nat→Prop} {K:KT [.one .slice]} (h:Sh.limb_One y (Rt X [.one .slice] K w) w.here):Ct Pg F.limb_One [.int .u64 y] w X [.one .slice] K:=
 cod (Sh.limb_One y) 7 [] [] [] f39 h
def Sh.limb_Cmp (a:Sl) (b:Sl) (R:Value→TW→Prop) (w:TW):Prop:=
cl Pg F.api_Nat_Len [a.v] w [.one (.int .i64)] fun (r:Int) w1=>
cl Pg F.api_Nat_Len [b.v] w1 [.one (.int .i64)] fun (r1:Int) w2=>
cond ((r:Int) != r1) (
cond (decide ((r:Int)<r1)) (
R (.int .i64 (-1)) w2) (
R (.int .i64 1) w2)) (
bnd (wi (r-1)) fun n=>
Jn [] (fun J0=>
Lp [.int .i64] (fun (i:Int) w3 C0=>
cond (decide ((i:Int)≥0)) (
ixa a i 1 fun a1=>
ldc (.int .u64) w3.drew a1 fun (v:Int)=>
ixa b i 1 fun a2=>
ldc (.int .u64) w3.drew a2 fun (v1:Int)=>
cond ((v:Int) != v1) (
ixa a i 1 fun a3=>
ldc (.int .u64) w3.drew.drew a3 fun (v2:Int)=>
ixa b i 1 fun a4=>
ldc (.int .u64) w3.drew.drew a4 fun (v3:Int)=>
cond (decide ((v2:Int)<v3)) (
R (.int .i64 (-1)) w3.drew.drew) (
R (.int .i64 1) w3.drew.drew)) (
bnd (wi (i-1)) fun n1=>
C0 n1 w3.drew)) (
J0 w3)) n w2) fun  w4=>
R (.int .i64 0) w4)
theorem Ct.limb_Cmp {a:Sl} {b:Sl} {w:TW} {X:Nat→Prop} {K:KT [.one (.int .i64)]} (h:Sh.limb_Cmp a b (Rt X [.one (.int .i64)] K w) w.here):Ct Pg F.limb_Cmp [a.v,b.v] w X [.one (.int .i64)] K:=
 cod (Sh.limb_Cmp a b) 42 [] [] [(2,0,[]),(3,7,[(7,.one (.int .i64))])] f42 h
def Sh.limb_Add (a:Sl) (b:Sl) (R:Value→TW→Prop) (w:TW):Prop:=
cl Pg F.limb_trim [a.v] w [.one .slice] fun (s:Sl) w1=>
cl Pg F.limb_trim [b.v] w1 [.one .slice] fun (s1:Sl) w2=>
Jn [.slice,.slice] (fun J0=>
cond (decide (((s.n:Int):Int)<(s1.n:Int))) (
J0 s1 s w2) (
J0 s s1 w2)) fun (a1:Sl) (b1:Sl) w3=>
bnd (wi ((a1.n:Int)+1)) fun n=>
mks w3 n n T.uint64 8 [.int .u64 0] fun s2 w4=>
Jn [.int .u64] (fun J1=>
Lp [.int .u64,.int .i64] (fun (c:Int) (x:Int) w5 C0=>
cond (decide ((x:Int)<(a1.n:Int))) (
Jn [.int .u64] (fun J2=>
cond (decide ((x:Int)<(b1.n:Int))) (
ixa b1 x 1 fun a2=>
ldc (.int .u64) w5 a2 fun (v:Int)=>
J2 v w5) (
J2 0 w5)) fun (y:Int) w6=>
ixa a1 x 1 fun a3=>
ldc (.int .u64) w6 a3 fun (v1:Int)=>
add64 v1 y c fun s3 c1=>
ixa s2 x 1 fun a4=>
stc w6 a4 (.int .u64 s3) fun w7=>
bnd (wi (x+1)) fun n1=>
C0 c1 n1 w7) (
J1 c w5)) 0 0 w4) fun (c2:Int) w8=>
ixa s2 (a1.n:Int) 1 fun a5=>
stc w8 a5 (.int .u64 c2) fun w9=>
cl Pg F.limb_trim [s2.v] w9 [.one .slice] fun (s4:Sl) w10=>
R (s4.v) w10
theorem Ct.limb_Add {a:Sl} {b:Sl} {w:TW} {X:Nat→Prop} {K:KT [.one .slice]} (h:Sh.limb_Add a b (Rt X [.one .slice] K w) w.here):Ct Pg F.limb_Add [a.v,b.v] w X [.one .slice] K:=
 cod (Sh.limb_Add a b) 58 [] [] [(1,3,[(0,.one .slice),(1,.one .slice)]),(2,0,[(6,.one (.int .u64))]),(3,7,[(6,.one (.int .u64)),(26,.one (.int .i64))]),(1,11,[(8,.one (.int .u64))])] f43 h
def Sh.limb_Sub (a:Sl) (b:Sl) (R:Value→TW→Prop) (w:TW):Prop:=
cl Pg F.limb_trim [a.v] w [.one .slice] fun (s:Sl) w1=>
cl Pg F.limb_trim [b.v] w1 [.one .slice] fun (s1:Sl) w2=>
cl Pg F.limb_Cmp [s.v,s1.v] w2 [.one (.int .i64)] fun (r:Int) w3=>
cond (decide ((r:Int)<0)) (
R (.tuple #[.slice none 0 0,.bool false]) w3) (
mks w3 (s.n:Int) (s.n:Int) T.uint64 8 [.int .u64 0] fun s2 w4=>
Jn [] (fun J0=>
Lp [.int .u64,.int .i64] (fun (c:Int) (x:Int) w5 C0=>
cond (decide ((x:Int)<(s.n:Int))) (
Jn [.int .u64] (fun J1=>
cond (decide ((x:Int)<(s1.n:Int))) (
ixa s1 x 1 fun a1=>
ldc (.int .u64) w5 a1 fun (v:Int)=>
J1 v w5) (
J1 0 w5)) fun (y:Int) w6=>
ixa s x 1 fun a2=>
ldc (.int .u64) w6 a2 fun (v1:Int)=>
sub64 v1 y c fun s3 c1=>
ixa s2 x 1 fun a3=>
stc w6 a3 (.int .u64 s3) fun w7=>
bnd (wi (x+1)) fun n=>
C0 c1 n w7) (
J0 w5)) 0 0 w4) fun  w8=>
cl Pg F.limb_trim [s2.v] w8 [.one .slice] fun (s4:Sl) w9=>
R (.tuple #[s4.v,.bool true]) w9)
theorem Ct.limb_Sub {a:Sl} {b:Sl} {w:TW} {X:Nat→Prop} {K:KT [.one .slice,.one .bool]} (h:Sh.limb_Sub a b (Rt X [.one .slice,.one .bool] K w) w.here):Ct Pg F.limb_Sub [a.v,b.v] w X [.one .slice,.one .bool] K:=
 cod (Sh.limb_Sub a b) 50 [] [] [(2,0,[]),(3,7,[(7,.one (.int .u64)),(23,.one (.int .i64))]),(1,11,[(9,.one (.int .u64))])] f44 h
def Sh.limb_MulWord (a:Sl) (y:Int) (R:Value→TW→Prop) (w:TW):Prop:=
cl Pg F.limb_AddMul [.slice none 0 0,a.v,.int .u64 y] w [.one .slice] fun (s:Sl) w1=>
R (s.v) w1
theorem Ct.limb_MulWord {a:Sl} {y:Int} {w:TW} {X:Nat→Prop} {K:KT [.one .slice]} (h:Sh.limb_MulWord a y (Rt X [.one .slice] K w) w.here):Ct Pg F.limb_MulWord [a.v,.int .u64 y] w X [.one .slice] K:=
 cod (Sh.limb_MulWord a y) 8 [] [] [] f66 h
def Sh.limb_trim (a:Sl) (R:Value→TW→Prop) (w:TW):Prop:=
cl Pg F.api_Nat_Len [a.v] w [.one (.int .i64)] fun (r:Int) w1=>
slc a 0 r 1 fun s=>
R (s.v) w1
theorem Ct.limb_trim {a:Sl} {w:TW} {X:Nat→Prop} {K:KT [.one .slice]} (h:Sh.limb_trim a (Rt X [.one .slice] K w) w.here):Ct Pg F.limb_trim [a.v] w X [.one .slice] K:=
 cod (Sh.limb_trim a) 7 [] [] [] f84 h
def Sh.limb_Shl (a:Sl) (n:Int) (R:Value→TW→Prop) (w:TW):Prop:=
cl Pg F.limb_within [.int .i64 n,.int .i64 1048576] w [.one (.int .i64)] fun (r:Int) w1=>
cl Pg F.limb_trim [a.v] w1 [.one .slice] fun (s:Sl) w2=>
cond (((s.n:Int):Int) == 0) (
R (.slice none 0 0) w2) (
divK .i64 r 64 fun n1=>
remK r 64 fun n2=>
bnd (wu (n2)) fun n3=>
bnd (wi ((s.n:Int)+n1)) fun n4=>
bnd (wi (n4+1)) fun n5=>
mks w2 n5 n5 T.uint64 8 [.int .u64 0] fun s1 w3=>
Jn [] (fun J0=>
Lp [.int .i64] (fun (x:Int) w4 C0=>
cond (decide ((x:Int)<(s.n:Int))) (
ixa s x 1 fun a1=>
ldc (.int .u64) w4 a1 fun (v:Int)=>
bnd (wi (x+n1)) fun n6=>
bnd (wi (x+n1)) fun n7=>
ixa s1 n7 1 fun a2=>
ldc (.int .u64) w4 a2 fun (v1:Int)=>
shlK .u64 v n3 fun n8=>
bnd (bits2 .or .u64 v1 n8) fun n9=>
ixa s1 n6 1 fun a3=>
stc w4 a3 (.int .u64 n9) fun w5=>
Jn [] (fun J1=>
cond (decide ((n3:Int)>0)) (
bnd (wi (x+n1)) fun n10=>
bnd (wi (n10+1)) fun n11=>
bnd (wu (64-n3)) fun n12=>
shrK .u64 v n12 fun n13=>
ixa s1 n11 1 fun a4=>
stc w5 a4 (.int .u64 n13) fun w6=>
J1 w6) (
J1 w5)) fun  w7=>
bnd (wi (x+1)) fun n14=>
C0 n14 w7) (
J0 w4)) 0 w3) fun  w8=>
cl Pg F.limb_trim [s1.v] w8 [.one .slice] fun (s2:Sl) w9=>
R (s2.v) w9)
theorem Ct.limb_Shl {a:Sl} {n:Int} {w:TW} {X:Nat→Prop} {K:KT [.one .slice]} (h:Sh.limb_Shl a n (Rt X [.one .slice] K w) w.here):Ct Pg F.limb_Shl [a.v,.int .i64 n] w X [.one .slice] K:=
 cod (Sh.limb_Shl a n) 65 [] [] [(2,0,[]),(3,8,[(30,.one (.int .i64))]),(1,12,[])] f89 h
def Sh.limb_Norm (a:Sl) (R:Value→TW→Prop) (w:TW):Prop:=
cl Pg F.limb_trim [a.v] w [.one .slice] fun (s:Sl) w1=>
apd w1 T.uint64 1 8 Sl.nil s fun s1 w2=>
R (s1.v) w2
theorem Ct.limb_Norm {a:Sl} {w:TW} {X:Nat→Prop} {K:KT [.one .slice]} (h:Sh.limb_Norm a (Rt X [.one .slice] K w) w.here):Ct Pg F.limb_Norm [a.v] w X [.one .slice] K:=
 cod (Sh.limb_Norm a) 6 [] [] [] f104 h
def Sh.limb_DivWord (a:Sl) (y:Int) (R:Value→TW→Prop) (w:TW):Prop:=
cond ((y:Int) == 0) (
R (.tuple #[.slice none 0 0,.int .u64 0,.int .i64 2]) w) (
cl Pg F.limb_trim [a.v] w [.one .slice] fun (s:Sl) w1=>
mks w1 (s.n:Int) (s.n:Int) T.uint64 8 [.int .u64 0] fun s1 w2=>
bnd (wi ((s.n:Int)-1)) fun n=>
Jn [.int .u64] (fun J0=>
Lp [.int .u64,.int .i64] (fun (r:Int) (i:Int) w3 C0=>
cond (decide ((i:Int)≥0)) (
ixa s i 1 fun a1=>
ldc (.int .u64) w3 a1 fun (v:Int)=>
cl Pg F.bits_Div64 [.int .u64 r,.int .u64 v,.int .u64 y] w3 [.one (.int .u64),.one (.int .u64)] fun (r1:Int) (r2:Int) w4=>
ixa s1 i 1 fun a2=>
stc w4 a2 (.int .u64 r1) fun w5=>
bnd (wi (i-1)) fun n1=>
C0 r2 n1 w5) (
J0 r w3)) 0 n w2) fun (r3:Int) w6=>
cl Pg F.limb_trim [s1.v] w6 [.one .slice] fun (s2:Sl) w7=>
R (.tuple #[s2.v,.int .u64 r3,.int .i64 0]) w7)
theorem Ct.limb_DivWord {a:Sl} {y:Int} {w:TW} {X:Nat→Prop} {K:KT [.one .slice,.one (.int .u64),.one (.int .i64)]} (h:Sh.limb_DivWord a y (Rt X [.one .slice,.one (.int .u64),.one (.int .i64)] K w) w.here):Ct Pg F.limb_DivWord [a.v,.int .u64 y] w X [.one .slice,.one (.int .u64),.one (.int .i64)] K:=
 cod (Sh.limb_DivWord a y) 40 [] [] [(2,0,[(8,.one (.int .u64))]),(3,7,[(8,.one (.int .u64)),(9,.one (.int .i64))])] f112 h
def Sh.limb_AddMul (a:Sl) (b:Sl) (y:Int) (R:Value→TW→Prop) (w:TW):Prop:=
cl Pg F.limb_trim [a.v] w [.one .slice] fun (s:Sl) w1=>
cl Pg F.limb_trim [b.v] w1 [.one .slice] fun (s1:Sl) w2=>
bnd (wi ((s1.n:Int)+1)) fun n=>
bnd (if (n:Int)>(s.n:Int) then n else (s.n:Int)) fun n1=>
bnd (wi (n1+1)) fun n2=>
mks w2 n2 n2 T.uint64 8 [.int .u64 0] fun s2 w3=>
cpy w3 T.uint64 s2 s fun _ w4=>
Jn [] (fun J0=>
Lp [.int .u64,.int .i64] (fun (c:Int) (x:Int) w5 C0=>
cond (decide ((x:Int)<(s2.n:Int))) (
Jn [.bool] (fun J1=>
cond (decide ((x:Int)≥(s1.n:Int))) (
J1 ((c:Int) == 0) w5) (
J1 false w5)) fun (x1:Bool) w6=>
cond x1 (
J0 w6) (
Jn [.int .u64,.int .u64] (fun J2=>
cond (decide ((x:Int)<(s1.n:Int))) (
ixa s1 x 1 fun a1=>
ldc (.int .u64) w6 a1 fun (v:Int)=>
cl Pg F.bits_Mul64 [.int .u64 v,.int .u64 y] w6 [.one (.int .u64),.one (.int .u64)] fun (r:Int) (r1:Int) w7=>
J2 r r1 w7) (
J2 0 0 w6)) fun (hi:Int) (lo:Int) w8=>
add64 lo c 0 fun s3 c1=>
bnd (wu (hi+c1)) fun n4=>
ixa s2 x 1 fun a2=>
ldc (.int .u64) w8 a2 fun (v1:Int)=>
add64 v1 s3 0 fun s4 c2=>
ixa s2 x 1 fun a3=>
stc w8 a3 (.int .u64 s4) fun w9=>
bnd (wu (n4+c2)) fun n5=>
bnd (wi (x+1)) fun n6=>
C0 n5 n6 w9)) (
J0 w5)) 0 0 w4) fun  w10=>
cl Pg F.limb_trim [s2.v] w10 [.one .slice] fun (s5:Sl) w11=>
R (s5.v) w11
theorem Ct.limb_AddMul {a:Sl} {b:Sl} {y:Int} {w:TW} {X:Nat→Prop} {K:KT [.one .slice]} (h:Sh.limb_AddMul a b y (Rt X [.one .slice] K w) w.here):Ct Pg F.limb_AddMul [a.v,b.v,.int .u64 y] w X [.one .slice] K:=
 cod (Sh.limb_AddMul a b y) 82 [] [] [(2,0,[]),(3,6,[(8,.one (.int .u64)),(31,.one (.int .i64))]),(0,8,[(41,.one .bool)]),(1,11,[(10,.one (.int .u64)),(11,.one (.int .u64))])] f113 h
def Sh.limb_Shr (a:Sl) (n:Int) (R:Value→TW→Prop) (w:TW):Prop:=
cl Pg F.limb_within [.int .i64 n,.int .i64 1048576] w [.one (.int .i64)] fun (r:Int) w1=>
cl Pg F.limb_trim [a.v] w1 [.one .slice] fun (s:Sl) w2=>
divK .i64 r 64 fun n1=>
remK r 64 fun n2=>
bnd (wu (n2)) fun n3=>
cond (decide ((n1:Int)≥(s.n:Int))) (
R (.slice none 0 0) w2) (
bnd (wi ((s.n:Int)-n1)) fun n4=>
mks w2 n4 n4 T.uint64 8 [.int .u64 0] fun s1 w3=>
Jn [] (fun J0=>
Lp [.int .i64] (fun (x:Int) w4 C0=>
cond (decide ((x:Int)<(s1.n:Int))) (
bnd (wi (x+n1)) fun n5=>
ixa s n5 1 fun a1=>
ldc (.int .u64) w4 a1 fun (v:Int)=>
shrK .u64 v n3 fun n6=>
ixa s1 x 1 fun a2=>
stc w4 a2 (.int .u64 n6) fun w5=>
Jn [.bool] (fun J1=>
cond (decide ((n3:Int)>0)) (
bnd (wi (x+n1)) fun n7=>
bnd (wi (n7+1)) fun n8=>
J1 (decide ((n8:Int)<(s.n:Int))) w5) (
J1 false w5)) fun (x1:Bool) w6=>
Jn [] (fun J2=>
cond x1 (
ixa s1 x 1 fun a3=>
ldc (.int .u64) w6.drew a3 fun (v1:Int)=>
bnd (wi (x+n1)) fun n9=>
bnd (wi (n9+1)) fun n10=>
ixa s n10 1 fun a4=>
ldc (.int .u64) w6.drew a4 fun (v2:Int)=>
bnd (wu (64-n3)) fun n11=>
shlK .u64 v2 n11 fun n12=>
bnd (bits2 .or .u64 v1 n12) fun n13=>
ixa s1 x 1 fun a5=>
stc w6.drew a5 (.int .u64 n13) fun w7=>
J2 w7) (
J2 w6)) fun  w8=>
bnd (wi (x+1)) fun n14=>
C0 n14 w8) (
J0 w4)) 0 w3) fun  w9=>
cl Pg F.limb_trim [s1.v] w9 [.one .slice] fun (s2:Sl) w10=>
R (s2.v) w10)
theorem Ct.limb_Shr {a:Sl} {n:Int} {w:TW} {X:Nat→Prop} {K:KT [.one .slice]} (h:Sh.limb_Shr a n (Rt X [.one .slice] K w) w.here):Ct Pg F.limb_Shr [a.v,.int .i64 n] w X [.one .slice] K:=
 cod (Sh.limb_Shr a n) 75 [] [] [(2,0,[]),(3,8,[(29,.one (.int .i64))]),(0,11,[(53,.one .bool)]),(1,12,[])] f121 h
def Sh.limb_Join (k:Int) (parts:Sl) (R:Value→TW→Prop) (w:TW):Prop:=
cl Pg F.limb_within [.int .i64 k,.int .i64 16384] w [.one (.int .i64)] fun (r:Int) w1=>
Jn [.int .i64] (fun J0=>
Lp [.int .i64,.int .i64] (fun (n:Int) (x:Int) w2 C0=>
cond (decide ((x:Int)<(parts.n:Int))) (
ixa parts x 1 fun a=>
ldc (.slice) w2 a fun (v:Sl)=>
cl Pg F.api_Nat_Len [v.v] w2 [.one (.int .i64)] fun (r1:Int) w3=>
Jn [.int .i64] (fun J1=>
cond (decide ((r1:Int)>0)) (
bnd (wi (r*x)) fun n1=>
bnd (wi (n1+r1)) fun n2=>
bnd (if (n2:Int)>n then n2 else n) fun n3=>
J1 n3 w3) (
J1 n w3)) fun (n4:Int) w4=>
bnd (wi (x+1)) fun n5=>
C0 n4 n5 w4) (
J0 n w2)) 0 0 w1) fun (n6:Int) w5=>
bnd (wi (n6+2)) fun n7=>
mks w5 n7 n7 T.uint64 8 [.int .u64 0] fun s w6=>
Jn [] (fun J2=>
Lp [.int .i64] (fun (x1:Int) w7 C1=>
cond (decide ((x1:Int)<(parts.n:Int))) (
ixa parts x1 1 fun a1=>
ldc (.slice) w7 a1 fun (v1:Sl)=>
cl Pg F.limb_trim [v1.v] w7 [.one .slice] fun (s1:Sl) w8=>
Jn [] (fun J3=>
Lp [.int .u64,.int .i64] (fun (c:Int) (j:Int) w9 C2=>
Jn [.bool] (fun J4=>
cond (decide ((j:Int)<(s1.n:Int))) (
J4 true w9) (
J4 (decide ((c:Int)>0)) w9)) fun (x2:Bool) w10=>
cond x2 (
Jn [.int .u64] (fun J5=>
cond (decide ((j:Int)<(s1.n:Int))) (
ixa s1 j 1 fun a2=>
ldc (.int .u64) w10 a2 fun (v2:Int)=>
J5 v2 w10) (
J5 0 w10)) fun (y:Int) w11=>
bnd (wi (r*x1)) fun n8=>
bnd (wi (n8+j)) fun n9=>
bnd (wi (r*x1)) fun n10=>
bnd (wi (n10+j)) fun n11=>
ixa s n11 1 fun a3=>
ldc (.int .u64) w11 a3 fun (v3:Int)=>
add64 v3 y c fun s2 c1=>
ixa s n9 1 fun a4=>
stc w11 a4 (.int .u64 s2) fun w12=>
bnd (wi (j+1)) fun n12=>
C2 c1 n12 w12) (
J3 w10)) 0 0 w8) fun  w13=>
bnd (wi (x1+1)) fun n13=>
C1 n13 w13) (
J2 w7)) 0 w6) fun  w14=>
cl Pg F.limb_trim [s.v] w14 [.one .slice] fun (s3:Sl) w15=>
R (s3.v) w15
theorem Ct.limb_Join {k:Int} {parts:Sl} {w:TW} {X:Nat→Prop} {K:KT [.one .slice]} (h:Sh.limb_Join k parts (Rt X [.one .slice] K w) w.here):Ct Pg F.limb_Join [.int .i64 k,parts.v] w X [.one .slice] K:=
 cod (Sh.limb_Join k parts) 90 [] [] [(2,0,[(5,.one (.int .i64))]),(3,4,[(5,.one (.int .i64)),(19,.one (.int .i64))]),(1,8,[(5,.one (.int .i64))]),(2,2,[]),(3,12,[(41,.one (.int .i64))]),(2,4,[]),(3,17,[(12,.one (.int .u64)),(13,.one (.int .i64))]),(0,17,[(55,.one .bool)]),(1,21,[(14,.one (.int .u64))])] f124 h
def Sh.limb_within (n:Int) (most:Int) (R:Value→TW→Prop) (w:TW):Prop:=
bnd (if (most:Int)<n then most else n) fun n1=>
bnd (if (n1:Int)>0 then n1 else 0) fun n2=>
R (.int .i64 n2) w
theorem Ct.limb_within {n:Int} {most:Int} {w:TW} {X:Nat→Prop} {K:KT [.one (.int .i64)]} (h:Sh.limb_within n most (Rt X [.one (.int .i64)] K w) w.here):Ct Pg F.limb_within [.int .i64 n,.int .i64 most] w X [.one (.int .i64)] K:=
 cod (Sh.limb_within n most) 9 [] [] [] f130 h
def Sh.limb_Low (a:Sl) (n:Int) (R:Value→TW→Prop) (w:TW):Prop:=
cl Pg F.limb_within [.int .i64 n,.int .i64 1048576] w [.one (.int .i64)] fun (r:Int) w1=>
cl Pg F.limb_trim [a.v] w1 [.one .slice] fun (s:Sl) w2=>
divK .i64 r 64 fun n1=>
remK r 64 fun n2=>
bnd (wu (n2)) fun n3=>
cond (decide ((n1:Int)≥(s.n:Int))) (
apd w2 T.uint64 1 8 Sl.nil s fun s1 w3=>
R (s1.v) w3) (
slc s 0 n1 1 fun s2=>
apd w2 T.uint64 1 8 Sl.nil s2 fun s3 w4=>
Jn [.slice] (fun J0=>
cond (decide ((n3:Int)>0)) (
ixa s n1 1 fun a1=>
ldc (.int .u64) w4 a1 fun (v:Int)=>
shlK .u64 1 n3 fun n4=>
bnd (wu (n4-1)) fun n5=>
bnd (bits2 .and .u64 v n5) fun n6=>
nwb w4 [.int .u64 n6] T.uint64 fun b w5=>
apd w5 T.uint64 1 8 s3 ⟨(some ⟨b,0,none⟩),1,1⟩ fun s4 w6=>
J0 s4 w6) (
J0 s3 w4)) fun (out:Sl) w7=>
cl Pg F.limb_trim [out.v] w7 [.one .slice] fun (s5:Sl) w8=>
R (s5.v) w8)
theorem Ct.limb_Low {a:Sl} {n:Int} {w:TW} {X:Nat→Prop} {K:KT [.one .slice]} (h:Sh.limb_Low a n (Rt X [.one .slice] K w) w.here):Ct Pg F.limb_Low [a.v,.int .i64 n] w X [.one .slice] K:=
 cod (Sh.limb_Low a n) 42 [] [] [(1,8,[(7,.one .slice)])] f132 h
def Sh.limb_Split (a:Sl) (k:Int) (R:Value→TW→Prop) (w:TW):Prop:=
cl Pg F.limb_within [.int .i64 k,.int .i64 16384] w [.one (.int .i64)] fun (r:Int) w1=>
cl Pg F.limb_trim [a.v] w1 [.one .slice] fun (s:Sl) w2=>
cond (decide ((r:Int)≥(s.n:Int))) (
apd w2 T.uint64 1 8 Sl.nil s fun s1 w3=>
R (.tuple #[s1.v,.slice none 0 0]) w3) (
slc s 0 r 1 fun s2=>
slc s r (s.n:Nat) 1 fun s3=>
cl Pg F.limb_Norm [s2.v] w2.drew [.one .slice] fun (s4:Sl) w4=>
apd w4 T.uint64 1 8 Sl.nil s3 fun s5 w5=>
R (.tuple #[s4.v,s5.v]) w5)
theorem Ct.limb_Split {a:Sl} {k:Int} {w:TW} {X:Nat→Prop} {K:KT [.one .slice,.one .slice]} (h:Sh.limb_Split a k (Rt X [.one .slice,.one .slice] K w) w.here):Ct Pg F.limb_Split [a.v,.int .i64 k] w X [.one .slice,.one .slice] K:=
 cod (Sh.limb_Split a k) 24 [] [] [] f155 h
def Sh.limb_SubMul (a:Sl) (b:Sl) (y:Int) (R:Value→TW→Prop) (w:TW):Prop:=
cl Pg F.limb_MulWord [b.v,.int .u64 y] w [.one .slice] fun (s:Sl) w1=>
cl Pg F.limb_Sub [a.v,s.v] w1 [.one .slice,.one .bool] fun (s1:Sl) (ok:Bool) w2=>
R (.tuple #[s1.v,.bool ok]) w2
theorem Ct.limb_SubMul {a:Sl} {b:Sl} {y:Int} {w:TW} {X:Nat→Prop} {K:KT [.one .slice,.one .bool]} (h:Sh.limb_SubMul a b y (Rt X [.one .slice,.one .bool] K w) w.here):Ct Pg F.limb_SubMul [a.v,b.v,.int .u64 y] w X [.one .slice,.one .bool] K:=
 cod (Sh.limb_SubMul a b y) 15 [] [] [] f208 h
def Sh.limb_Sum (l:Sl) (R:Value→TW→Prop) (w:TW):Prop:=
cl Pg F.limb_Join [.int .i64 0,l.v] w [.one .slice] fun (s:Sl) w1=>
R (s.v) w1
theorem Ct.limb_Sum {l:Sl} {w:TW} {X:Nat→Prop} {K:KT [.one .slice]} (h:Sh.limb_Sum l (Rt X [.one .slice] K w) w.here):Ct Pg F.limb_Sum [l.v] w X [.one .slice] K:=
 cod (Sh.limb_Sum l) 5 [] [] [] f211 h
end Go.Proofs.YtjhfalgmgagdhaaGreatDoor.Zg
end

section
set_option maxRecDepth 100000
namespace Go.Proofs.YtjhfalgmgagdhaaGreatDoor.Zg
open Go.Proofs.Tryz
def Sh.meter_Meter_Spend (m:Option Addr) (n:Int) (R:Value→TW→Prop) (w:TW):Prop:=
Jn [] (fun J0=>
cond (decide ((n:Int)>0)) (
nck m fun a=>
ldc (.int .i64) w a fun (v:Int)=>
bnd (wi (v+n)) fun n1=>
nck m fun a1=>
stc w a1 (.int .i64 n1) fun w1=>
J0 w1) (
J0 w)) fun  w2=>
nck m fun a2=>
ldc (.int .i64) w2 a2 fun (v1:Int)=>
R (.int .i64 v1) w2
theorem Ct.meter_Meter_Spend {m:Option Addr} {n:Int} {w:TW} {X:Nat→Prop} {K:KT [.one (.int .i64)]} (h:Sh.meter_Meter_Spend m n (Rt X [.one (.int .i64)] K w) w.here):Ct Pg F.meter_Meter_Spend [.pointer m,.int .i64 n] w X [.one (.int .i64)] K:=
 cod (Sh.meter_Meter_Spend m n) 20 [] [] [(1,2,[])] f110 h
def Sh.meter_Meter_Muls (m:Option Addr) (R:Value→TW→Prop) (w:TW):Prop:=
nck m fun a=>
ldc (.int .i64) w a fun (v:Int)=>
R (.int .i64 v) w
theorem Ct.meter_Meter_Muls {m:Option Addr} {w:TW} {X:Nat→Prop} {K:KT [.one (.int .i64)]} (h:Sh.meter_Meter_Muls m (Rt X [.one (.int .i64)] K w) w.here):Ct Pg F.meter_Meter_Muls [.pointer m] w X [.one (.int .i64)] K:=
 cod (Sh.meter_Meter_Muls m) 7 [] [] [] f111 h
def Sh.meter_Meter_Enter (m:Option Addr) (R:Value→TW→Prop) (w:TW):Prop:=
nck m fun a=>
ldc (.int .i64) w (a.add 1) fun (v:Int)=>
bnd (wi (v+1)) fun n=>
nck m fun a1=>
stc w (a1.add 1) (.int .i64 n) fun w1=>
nck m fun a2=>
ldc (.int .i64) w1.drew (a2.add 2) fun (v1:Int)=>
nck m fun a3=>
ldc (.int .i64) w1.drew (a3.add 1) fun (v2:Int)=>
bnd (if (v2:Int)>v1 then v2 else v1) fun n1=>
nck m fun a4=>
stc w1.drew (a4.add 2) (.int .i64 n1) fun w2=>
nck m fun a5=>
ldc (.int .i64) w2 (a5.add 1) fun (v3:Int)=>
R (.int .i64 v3) w2
theorem Ct.meter_Meter_Enter {m:Option Addr} {w:TW} {X:Nat→Prop} {K:KT [.one (.int .i64)]} (h:Sh.meter_Meter_Enter m (Rt X [.one (.int .i64)] K w) w.here):Ct Pg F.meter_Meter_Enter [.pointer m] w X [.one (.int .i64)] K:=
 cod (Sh.meter_Meter_Enter m) 26 [] [] [] f154 h
def Sh.meter_Meter_Leave (m:Option Addr) (R:Value→TW→Prop) (w:TW):Prop:=
nck m fun a=>
ldc (.int .i64) w (a.add 1) fun (v:Int)=>
Jn [] (fun J0=>
cond (decide ((v:Int)>0)) (
nck m fun a1=>
ldc (.int .i64) w (a1.add 1) fun (v1:Int)=>
bnd (wi (v1-1)) fun n=>
nck m fun a2=>
stc w (a2.add 1) (.int .i64 n) fun w1=>
J0 w1) (
J0 w)) fun  w2=>
nck m fun a3=>
ldc (.int .i64) w2 (a3.add 1) fun (v2:Int)=>
R (.int .i64 v2) w2
theorem Ct.meter_Meter_Leave {m:Option Addr} {w:TW} {X:Nat→Prop} {K:KT [.one (.int .i64)]} (h:Sh.meter_Meter_Leave m (Rt X [.one (.int .i64)] K w) w.here):Ct Pg F.meter_Meter_Leave [.pointer m] w X [.one (.int .i64)] K:=
 cod (Sh.meter_Meter_Leave m) 19 [] [] [(1,2,[])] f157 h
end Go.Proofs.YtjhfalgmgagdhaaGreatDoor.Zg
end

section
set_option maxRecDepth 100000
namespace Go.Proofs.YtjhfalgmgagdhaaGreatDoor.Zg
open Go.Proofs.Tryz
def Sh.modn_New (t:HL I11) (R:Value→TW→Prop) (w:TW):Prop:=
nwv w fun w1=>
cl Pg F.hgcd_New [.agg (encs I11 t).toArray] w1 [.one .ptr] fun (p:Option Addr) w2=>
nwb w2 [.pointer p] T.modn_Engine fun b w3=>
R (.pointer (some ⟨b,0,none⟩)) w3
theorem Ct.modn_New {t:HL I11} {w:TW} {X:Nat→Prop} {K:KT [.one .ptr]} (h:Sh.modn_New t (Rt X [.one .ptr] K w) w.here):Ct Pg F.modn_New [.agg (encs I11 t).toArray] w X [.one .ptr] K:=
 cod (Sh.modn_New t) 7 [(1,7)] [(7,11)] [] f7 h
def Sh.modn_Engine_Inverse (e0:Option Addr) (a:Sl) (m:Sl) (R:Value→TW→Prop) (w:TW):Prop:=
cl Pg F.api_Nat_Zero [m.v] w [.one .bool] fun (ok:Bool) w1=>
cond ok (
R (.tuple #[.slice none 0 0,.int .i64 2]) w1) (
nck e0 fun a1=>
ldc (.ptr) w1 a1 fun (v:Option Addr)=>
nck v fun a2=>
ldc (.ptr) w1 a2 fun (v1:Option Addr)=>
nck v1 fun a3=>
ldc (.ptr) w1 a3 fun (v2:Option Addr)=>
nck v2 fun a4=>
ldc (.ptr) w1 a4 fun (v3:Option Addr)=>
nck v3 fun a5=>
ldc (.ptr) w1 a5 fun (v4:Option Addr)=>
nck v4 fun a6=>
ldc (.ptr) w1 a6 fun (v5:Option Addr)=>
nck v5 fun a7=>
ldc (.ptr) w1 a7 fun (v6:Option Addr)=>
cl Pg F.div_Engine_DivMod [.pointer v6,a.v,m.v] w1 [.one .slice,.one .slice,.one (.int .i64)] fun (_:Sl) (s1:Sl) (_:Int) w2=>
nck e0 fun a8=>
ldc (.ptr) w2 a8 fun (v7:Option Addr)=>
cl Pg F.hgcd_Engine_Xgcd [.pointer v7,s1.v,m.v] w2 [.one .slice,.agg [.slice,.bool],.agg [.slice,.bool]] fun (s2:Sl) (r1:Sl) (r2:Bool) (_:Sl) (_:Bool) w3=>
nwv w3 fun w4=>
nwv w4 fun w5=>
nwv w5 fun w6=>
nwv w6 fun w7=>
cl Pg F.limb_One [.int .u64 1] w7 [.one .slice] fun (s3:Sl) w8=>
cl Pg F.limb_Cmp [s2.v,s3.v] w8 [.one (.int .i64)] fun (r5:Int) w9=>
cond ((r5:Int) != 0) (
R (.tuple #[.slice none 0 0,.int .i64 4]) w9) (
cl Pg F.modn_Engine_Residue [.pointer e0,.agg #[r1.v,.bool r2],m.v] w9 [.one .slice,.one (.int .i64)] fun (s4:Sl) (r6:Int) w10=>
R (.tuple #[s4.v,.int .i64 r6]) w10))
theorem Ct.modn_Engine_Inverse {e0:Option Addr} {a:Sl} {m:Sl} {w:TW} {X:Nat→Prop} {K:KT [.one .slice,.one (.int .i64)]} (h:Sh.modn_Engine_Inverse e0 a m (Rt X [.one .slice,.one (.int .i64)] K w) w.here):Ct Pg F.modn_Engine_Inverse [.pointer e0,a.v,m.v] w X [.one .slice,.one (.int .i64)] K:=
 cod (Sh.modn_Engine_Inverse e0 a m) 63 [(9,63),(10,65)] [(63,2),(65,2)] [] f40 h
def Sh.modn_Engine_Signed (e0:Option Addr) (p0:Sl) (p1:Sl) (R:Value→TW→Prop) (w:TW):Prop:=
nwv w fun w1=>
nwv w1 fun w2=>
nck e0 fun a=>
ldc (.ptr) w2.drew a fun (v:Option Addr)=>
nck v fun a1=>
ldc (.ptr) w2.drew a1 fun (v1:Option Addr)=>
nck v1 fun a2=>
ldc (.ptr) w2.drew a2 fun (v2:Option Addr)=>
nck v2 fun a3=>
ldc (.ptr) w2.drew a3 fun (v3:Option Addr)=>
nck v3 fun a4=>
ldc (.ptr) w2.drew a4 fun (v4:Option Addr)=>
nck v4 fun a5=>
ldc (.ptr) w2.drew a5 fun (v5:Option Addr)=>
nck v5 fun a6=>
ldc (.ptr) w2.drew a6 fun (v6:Option Addr)=>
cl Pg F.div_Engine_DivMod [.pointer v6,p0.v,p1.v] w2.drew [.one .slice,.one .slice,.one (.int .i64)] fun (_:Sl) (s1:Sl) (r:Int) w3=>
hld w3 [(a5,.pointer v5),(a4,.pointer v4),(a3,.pointer v3),(a2,.pointer v2),(a1,.pointer v1),(a,.pointer v)] <|
cond ((r:Int) != 0) (
nwv w3 fun w4=>
R (.tuple #[.agg #[.slice none 0 0,.bool false],.int .i64 r]) w4) (
cl Pg F.limb_Shl [s1.v,.int .i64 1] w3.drew [.one .slice] fun (s2:Sl) w5=>
cl Pg F.limb_Cmp [s2.v,p1.v] w5 [.one (.int .i64)] fun (r1:Int) w6=>
cond (decide ((r1:Int)>0)) (
cl Pg F.limb_Sub [p1.v,s1.v] w6 [.one .slice,.one .bool] fun (s3:Sl) (_:Bool) w7=>
nwv w7 fun w8=>
R (.tuple #[.agg #[s3.v,.bool true],.int .i64 0]) w8) (
nwv w6 fun w9=>
R (.tuple #[.agg #[s1.v,.bool false],.int .i64 0]) w9))
theorem Ct.modn_Engine_Signed {e0:Option Addr} {p0:Sl} {p1:Sl} {w:TW} {X:Nat→Prop} {K:KT [.agg [.slice,.bool],.one (.int .i64)]} (h:Sh.modn_Engine_Signed e0 p0 p1 (Rt X [.agg [.slice,.bool],.one (.int .i64)] K w) w.here):Ct Pg F.modn_Engine_Signed [.pointer e0,.agg #[p0.v,p1.v]] w X [.agg [.slice,.bool],.one (.int .i64)] K:=
 cod (Sh.modn_Engine_Signed e0 p0 p1) 61 [(3,61),(4,63)] [(61,2),(63,2)] [] f46 h
def Sh.modn_Engine_Residue (e0:Option Addr) (a0:Sl) (a1:Bool) (m:Sl) (R:Value→TW→Prop) (w:TW):Prop:=
nwv w fun w1=>
nck e0 fun a2=>
ldc (.ptr) w1.drew a2 fun (v:Option Addr)=>
nck v fun a3=>
ldc (.ptr) w1.drew a3 fun (v1:Option Addr)=>
nck v1 fun a4=>
ldc (.ptr) w1.drew a4 fun (v2:Option Addr)=>
nck v2 fun a5=>
ldc (.ptr) w1.drew a5 fun (v3:Option Addr)=>
nck v3 fun a6=>
ldc (.ptr) w1.drew a6 fun (v4:Option Addr)=>
nck v4 fun a7=>
ldc (.ptr) w1.drew a7 fun (v5:Option Addr)=>
nck v5 fun a8=>
ldc (.ptr) w1.drew a8 fun (v6:Option Addr)=>
cl Pg F.div_Engine_DivMod [.pointer v6,a0.v,m.v] w1.drew [.one .slice,.one .slice,.one (.int .i64)] fun (_:Sl) (s1:Sl) (r:Int) w2=>
hld w2 [(a7,.pointer v5),(a6,.pointer v4),(a5,.pointer v3),(a4,.pointer v2),(a3,.pointer v1),(a2,.pointer v)] <|
cond ((r:Int) != 0) (
R (.tuple #[.slice none 0 0,.int .i64 r]) w2) (
Jn [.bool] (fun J0=>
cond a1 (
cl Pg F.api_Nat_Zero [s1.v] w2 [.one .bool] fun (ok:Bool) w3=>
J0 (!ok) w3) (
J0 false w2)) fun (x:Bool) w4=>
Jn [.slice] (fun J1=>
cond x (
cl Pg F.limb_Sub [m.v,s1.v] w4 [.one .slice,.one .bool] fun (s2:Sl) (_:Bool) w5=>
J1 s2 w5) (
J1 s1 w4)) fun (r1:Sl) w6=>
R (.tuple #[r1.v,.int .i64 0]) w6)
theorem Ct.modn_Engine_Residue {e0:Option Addr} {a0:Sl} {a1:Bool} {m:Sl} {w:TW} {X:Nat→Prop} {K:KT [.one .slice,.one (.int .i64)]} (h:Sh.modn_Engine_Residue e0 a0 a1 m (Rt X [.one .slice,.one (.int .i64)] K w) w.here):Ct Pg F.modn_Engine_Residue [.pointer e0,.agg #[a0.v,.bool a1],m.v] w X [.one .slice,.one (.int .i64)] K:=
 cod (Sh.modn_Engine_Residue e0 a0 a1 m) 58 [(4,58)] [(58,2)] [(0,4,[(50,.one .bool)]),(1,5,[(9,.one .slice)])] f80 h
end Go.Proofs.YtjhfalgmgagdhaaGreatDoor.Zg
end
