/- A part of the proofs of this seat's laws: words, lemmas or contracts of its functions. -/
import Derived.Test.YtjhfalgmgagdhaaGreatDoorGC
set_option linter.unusedVariables false
set_option linter.unusedSimpArgs false
set_option linter.unnecessarySimpa false
section
set_option maxRecDepth 100000
namespace Go.Proofs.YtjhfalgmgagdhaaGreatDoor.Zg
open Go.Proofs.Tryz
def Sh.recip_Engine_Recip (e0:Option Addr) (d:Sl) (n:Int) (R:Value→TW→Prop) (w:TW):Prop:=
cl Pg F.api_Nat_Zero [d.v] w [.one .bool] fun (ok:Bool) w1=>
cond ok (
R (.tuple #[.slice none 0 0,.int .i64 2]) w1) (
Jn [.bool] (fun J0=>
cond (decide ((n:Int)<0)) (
J0 true w1) (
J0 (decide ((n:Int)>1048576)) w1)) fun (x:Bool) w2=>
cond x (
R (.tuple #[.slice none 0 0,.int .i64 1]) w2) (
cl Pg F.api_Nat_Bits [d.v] w2 [.one (.int .i64)] fun (r:Int) w3=>
bnd (wi (r-1)) fun n1=>
cond (decide ((n:Int)<n1)) (
R (.tuple #[.slice none 0 0,.int .i64 0]) w3) (
cl Pg F.limb_Norm [d.v] w3 [.one .slice] fun (s:Sl) w4=>
cl Pg F.recip_Engine_newton [.pointer e0,s.v,.int .i64 n] w4 [.one .slice] fun (s1:Sl) w5=>
R (.tuple #[s1.v,.int .i64 0]) w5)))
theorem Ct.recip_Engine_Recip {e0:Option Addr} {d:Sl} {n:Int} {w:TW} {X:Nat→Prop} {K:KT [.one .slice,.one (.int .i64)]} (h:Sh.recip_Engine_Recip e0 d n (Rt X [.one .slice,.one (.int .i64)] K w) w.here):Ct Pg F.recip_Engine_Recip [.pointer e0,d.v,.int .i64 n] w X [.one .slice,.one (.int .i64)] K:=
 cod (Sh.recip_Engine_Recip e0 d n) 26 [] [] [(0,3,[(15,.one .bool)])] f122 h
def Sh.recip_Engine_newton (e0:Option Addr) (d:Sl) (n:Int) (R:Value→TW→Prop) (w:TW):Prop:=
cl Pg F.api_Nat_Bits [d.v] w [.one (.int .i64)] fun (r:Int) w1=>
bnd (wi (n-r)) fun n1=>
bnd (wi (n1+1)) fun n2=>
Jn [.bool] (fun J0=>
nck e0 fun a=>
ldc (.ptr) w1 a fun (v:Option Addr)=>
nck v fun a1=>
ldc (.ptr) w1 a1 fun (v1:Option Addr)=>
nck v1 fun a2=>
ldc (.ptr) w1 a2 fun (v2:Option Addr)=>
nck v2 fun a3=>
ldc (.ptr) w1 a3 fun (v3:Option Addr)=>
nck v3 fun a4=>
ldc (.ptr) w1 a4 fun (v4:Option Addr)=>
nck v4 fun a5=>
ldc (.ptr) w1 a5 fun (v5:Option Addr)=>
nck v5 fun a6=>
ldc (.int .i64) w1 ((a6.add 3).add 4) fun (v6:Int)=>
cond (decide (((d.n:Int):Int)<v6)) (
J0 true w1) (
J0 (decide ((n2:Int)≤64)) w1)) fun (x:Bool) w2=>
cond x (
nck e0 fun a7=>
ldc (.ptr) w2.drew a7 fun (v7:Option Addr)=>
cl Pg F.recip_power [.int .i64 n] w2.drew [.one .slice] fun (s:Sl) w3=>
hld w3 [(a7,.pointer v7)] <|
cl Pg F.divs_Engine_Long [.pointer v7,s.v,d.v] w3 [.one .slice,.one .slice,.one (.int .i64)] fun (s1:Sl) (_:Sl) (_:Int) w4=>
R (s1.v) w4) (
nck e0 fun a8=>
ldc (.ptr) w2 a8 fun (v8:Option Addr)=>
nck v8 fun a9=>
ldc (.ptr) w2 a9 fun (v9:Option Addr)=>
nck v9 fun a10=>
ldc (.ptr) w2 a10 fun (v10:Option Addr)=>
nck v10 fun a11=>
ldc (.ptr) w2 a11 fun (v11:Option Addr)=>
nck v11 fun a12=>
ldc (.ptr) w2 a12 fun (v12:Option Addr)=>
nck v12 fun a13=>
ldc (.ptr) w2 a13 fun (v13:Option Addr)=>
nck v13 fun a14=>
cl Pg F.meter_Meter_Enter [.pointer (some a14)] w2 [.one (.int .i64)] fun (_:Int) w5=>
divK .i64 n2 2 fun n3=>
bnd (wi (n3+4)) fun n4=>
cl Pg F.api_Nat_Bits [d.v] w5 [.one (.int .i64)] fun (r3:Int) w6=>
bnd (wi (r3-n4)) fun n5=>
bnd (wi (n5-4)) fun n6=>
bnd (if (n6:Int)>0 then n6 else 0) fun n7=>
cl Pg F.limb_Shr [d.v,.int .i64 n7] w6 [.one .slice] fun (s3:Sl) w7=>
cl Pg F.api_Nat_Bits [s3.v] w7 [.one (.int .i64)] fun (r4:Int) w8=>
bnd (wi (r4-1)) fun n8=>
bnd (wi (n8+n4)) fun n9=>
cl Pg F.recip_Engine_newton [.pointer e0,s3.v,.int .i64 n9] w8 [.one .slice] fun (s4:Sl) w9=>
bnd (wi (n-n9)) fun n10=>
bnd (wi (n10-n7)) fun n11=>
bnd (if (n11:Int)>0 then n11 else 0) fun n12=>
cl Pg F.limb_Shl [s4.v,.int .i64 n12] w9 [.one .slice] fun (s5:Sl) w10=>
bnd (wi (n9+n7)) fun n13=>
bnd (wi (n13-n)) fun n14=>
bnd (if (n14:Int)>0 then n14 else 0) fun n15=>
cl Pg F.limb_Shr [s5.v,.int .i64 n15] w10 [.one .slice] fun (s6:Sl) w11=>
cl Pg F.recip_Engine_step [.pointer e0,d.v,s6.v,.int .i64 n] w11 [.one .slice] fun (s7:Sl) w12=>
nck e0 fun a15=>
ldc (.ptr) w12 a15 fun (v14:Option Addr)=>
nck v14 fun a16=>
ldc (.ptr) w12 a16 fun (v15:Option Addr)=>
nck v15 fun a17=>
ldc (.ptr) w12 a17 fun (v16:Option Addr)=>
nck v16 fun a18=>
ldc (.ptr) w12 a18 fun (v17:Option Addr)=>
nck v17 fun a19=>
ldc (.ptr) w12 a19 fun (v18:Option Addr)=>
nck v18 fun a20=>
ldc (.ptr) w12 a20 fun (v19:Option Addr)=>
nck v19 fun a21=>
cl Pg F.meter_Meter_Leave [.pointer (some a21)] w12 [.one (.int .i64)] fun (_:Int) w13=>
cl Pg F.recip_Engine_right [.pointer e0,d.v,s7.v,.int .i64 n] w13 [.one .slice] fun (s8:Sl) w14=>
R (s8.v) w14)
theorem Ct.recip_Engine_newton {e0:Option Addr} {d:Sl} {n:Int} {w:TW} {X:Nat→Prop} {K:KT [.one .slice]} (h:Sh.recip_Engine_newton e0 d n (Rt X [.one .slice] K w) w.here):Ct Pg F.recip_Engine_newton [.pointer e0,d.v,.int .i64 n] w X [.one .slice] K:=
 cod (Sh.recip_Engine_newton e0 d n) 155 [] [] [(0,2,[(50,.one .bool)])] f153 h
def Sh.recip_power (n:Int) (R:Value→TW→Prop) (w:TW):Prop:=
cl Pg F.limb_One [.int .u64 1] w [.one .slice] fun (s:Sl) w1=>
cl Pg F.limb_Shl [s.v,.int .i64 n] w1 [.one .slice] fun (s1:Sl) w2=>
R (s1.v) w2
theorem Ct.recip_power {n:Int} {w:TW} {X:Nat→Prop} {K:KT [.one .slice]} (h:Sh.recip_power n (Rt X [.one .slice] K w) w.here):Ct Pg F.recip_power [.int .i64 n] w X [.one .slice] K:=
 cod (Sh.recip_power n) 6 [] [] [] f184 h
def Sh.recip_Engine_step (e0:Option Addr) (d:Sl) (x:Sl) (n:Int) (R:Value→TW→Prop) (w:TW):Prop:=
nck e0 fun a=>
ldc (.ptr) w a fun (v:Option Addr)=>
nck v fun a1=>
ldc (.ptr) w a1 fun (v1:Option Addr)=>
cl Pg F.mul_Engine_Mul [.pointer v1,d.v,x.v] w [.one .slice] fun (s:Sl) w1=>
cl Pg F.recip_power [.int .i64 n] w1 [.one .slice] fun (s1:Sl) w2=>
cl Pg F.limb_Sub [s1.v,s.v] w2 [.one .slice,.one .bool] fun (s2:Sl) (ok:Bool) w3=>
cond ok (
nck e0 fun a2=>
ldc (.ptr) w3 a2 fun (v2:Option Addr)=>
nck v2 fun a3=>
ldc (.ptr) w3 a3 fun (v3:Option Addr)=>
cl Pg F.mul_Engine_Mul [.pointer v3,x.v,s2.v] w3 [.one .slice] fun (s3:Sl) w4=>
cl Pg F.limb_Shr [s3.v,.int .i64 n] w4 [.one .slice] fun (s4:Sl) w5=>
cl Pg F.limb_Add [x.v,s4.v] w5 [.one .slice] fun (s5:Sl) w6=>
R (s5.v) w6) (
cl Pg F.limb_Sub [s.v,s1.v] w3 [.one .slice,.one .bool] fun (s6:Sl) (_:Bool) w7=>
nck e0 fun a4=>
ldc (.ptr) w7 a4 fun (v4:Option Addr)=>
nck v4 fun a5=>
ldc (.ptr) w7 a5 fun (v5:Option Addr)=>
cl Pg F.mul_Engine_Mul [.pointer v5,x.v,s6.v] w7 [.one .slice] fun (s7:Sl) w8=>
cl Pg F.limb_Shr [s7.v,.int .i64 n] w8 [.one .slice] fun (s8:Sl) w9=>
cl Pg F.limb_One [.int .u64 1] w9 [.one .slice] fun (s9:Sl) w10=>
cl Pg F.limb_Add [s8.v,s9.v] w10 [.one .slice] fun (s10:Sl) w11=>
cl Pg F.limb_Sub [x.v,s10.v] w11 [.one .slice,.one .bool] fun (s11:Sl) (ok2:Bool) w12=>
cond (!ok2) (
R (.slice none 0 0) w12) (
R (s11.v) w12))
theorem Ct.recip_Engine_step {e0:Option Addr} {d:Sl} {x:Sl} {n:Int} {w:TW} {X:Nat→Prop} {K:KT [.one .slice]} (h:Sh.recip_Engine_step e0 d x n (Rt X [.one .slice] K w) w.here):Ct Pg F.recip_Engine_step [.pointer e0,d.v,x.v,.int .i64 n] w X [.one .slice] K:=
 cod (Sh.recip_Engine_step e0 d x n) 80 [] [] [] f185 h
def Sh.recip_Engine_right (e0:Option Addr) (d:Sl) (x:Sl) (n:Int) (R:Value→TW→Prop) (w:TW):Prop:=
cl Pg F.recip_power [.int .i64 n] w [.one .slice] fun (s:Sl) w1=>
nck e0 fun a=>
ldc (.ptr) w1 a fun (v:Option Addr)=>
nck v fun a1=>
ldc (.ptr) w1 a1 fun (v1:Option Addr)=>
cl Pg F.mul_Engine_Mul [.pointer v1,d.v,x.v] w1 [.one .slice] fun (s1:Sl) w2=>
Jn [] (fun J0=>
Lp [.slice,.slice,.int .i64] (fun (x1:Sl) (p:Sl) (x2:Int) w3 C0=>
cond (decide ((x2:Int)<8)) (
Jn [.slice,.slice] (fun J1=>
cl Pg F.limb_Sub [s.v,p.v] w3 [.one .slice,.one .bool] fun (s2:Sl) (ok:Bool) w4=>
cond (!ok) (
cl Pg F.limb_One [.int .u64 1] w4 [.one .slice] fun (s3:Sl) w5=>
cl Pg F.limb_Sub [x1.v,s3.v] w5 [.one .slice,.one .bool] fun (s4:Sl) (_:Bool) w6=>
cl Pg F.limb_Sub [p.v,d.v] w6 [.one .slice,.one .bool] fun (s5:Sl) (_:Bool) w7=>
J1 s4 s5 w7) (
cl Pg F.limb_Cmp [s2.v,d.v] w4 [.one (.int .i64)] fun (r:Int) w8=>
cond (decide ((r:Int)<0)) (
R (x1.v) w8) (
cl Pg F.limb_One [.int .u64 1] w8 [.one .slice] fun (s6:Sl) w9=>
cl Pg F.limb_Add [x1.v,s6.v] w9 [.one .slice] fun (s7:Sl) w10=>
cl Pg F.limb_Add [p.v,d.v] w10 [.one .slice] fun (s8:Sl) w11=>
J1 s7 s8 w11))) fun (x3:Sl) (p1:Sl) w12=>
bnd (wi (x2+1)) fun n1=>
C0 x3 p1 n1 w12) (
J0 w3)) x s1 0 w2) fun  w13=>
nck e0 fun a2=>
ldc (.ptr) w13 a2 fun (v2:Option Addr)=>
cl Pg F.divs_Engine_Long [.pointer v2,s.v,d.v] w13 [.one .slice,.one .slice,.one (.int .i64)] fun (s9:Sl) (_:Sl) (_:Int) w14=>
R (s9.v) w14
theorem Ct.recip_Engine_right {e0:Option Addr} {d:Sl} {x:Sl} {n:Int} {w:TW} {X:Nat→Prop} {K:KT [.one .slice]} (h:Sh.recip_Engine_right e0 d x n (Rt X [.one .slice] K w) w.here):Ct Pg F.recip_Engine_right [.pointer e0,d.v,x.v,.int .i64 n] w X [.one .slice] K:=
 cod (Sh.recip_Engine_right e0 d x n) 74 [] [] [(2,0,[]),(3,4,[(2,.one .slice),(10,.one .slice),(28,.one (.int .i64))]),(2,1,[(2,.one .slice),(10,.one .slice)])] f186 h
def Sh.recip_New (t:HL I11) (R:Value→TW→Prop) (w:TW):Prop:=
nwv w fun w1=>
cl Pg F.divs_New [.agg (encs I11 t).toArray] w1 [.one .ptr] fun (p:Option Addr) w2=>
nwb w2 [.pointer p] T.recip_Engine fun b w3=>
R (.pointer (some ⟨b,0,none⟩)) w3
theorem Ct.recip_New {t:HL I11} {w:TW} {X:Nat→Prop} {K:KT [.one .ptr]} (h:Sh.recip_New t (Rt X [.one .ptr] K w) w.here):Ct Pg F.recip_New [.agg (encs I11 t).toArray] w X [.one .ptr] K:=
 cod (Sh.recip_New t) 7 [(1,7)] [(7,11)] [] f230 h
end Go.Proofs.YtjhfalgmgagdhaaGreatDoor.Zg
end

section
set_option maxRecDepth 100000
namespace Go.Proofs.YtjhfalgmgagdhaaGreatDoor.Zg
open Go.Proofs.Tryz
def Sh.root_New (t:HL I11) (R:Value→TW→Prop) (w:TW):Prop:=
nwv w fun w1=>
cl Pg F.div_New [.agg (encs I11 t).toArray] w1 [.one .ptr] fun (p:Option Addr) w2=>
nwb w2 [.pointer p] T.root_Engine fun b w3=>
R (.pointer (some ⟨b,0,none⟩)) w3
theorem Ct.root_New {t:HL I11} {w:TW} {X:Nat→Prop} {K:KT [.one .ptr]} (h:Sh.root_New t (Rt X [.one .ptr] K w) w.here):Ct Pg F.root_New [.agg (encs I11 t).toArray] w X [.one .ptr] K:=
 cod (Sh.root_New t) 7 [(1,7)] [(7,11)] [] f205 h
end Go.Proofs.YtjhfalgmgagdhaaGreatDoor.Zg
end

section
set_option maxRecDepth 100000
namespace Go.Proofs.YtjhfalgmgagdhaaGreatDoor.Zg
open Go.Proofs.Tryz
def Sh.school_Engine_Mul (e0:Option Addr) (a:Sl) (b:Sl) (R:Value→TW→Prop) (w:TW):Prop:=
nck e0 fun a1=>
ldc (.ptr) w a1 fun (v:Option Addr)=>
nck v fun a2=>
bnd (wi ((a.n:Int)*(b.n:Int))) fun n=>
cl Pg F.meter_Meter_Spend [.pointer (some a2),.int .i64 n] w [.one (.int .i64)] fun (_:Int) w1=>
bnd (wi ((a.n:Int)+(b.n:Int))) fun n1=>
mks w1 n1 n1 T.uint64 8 [.int .u64 0] fun s w2=>
Jn [] (fun J0=>
Lp [.int .i64] (fun (x:Int) w3 C0=>
cond (decide ((x:Int)<(a.n:Int))) (
ixa a x 1 fun a3=>
ldc (.int .u64) w3 a3 fun (v1:Int)=>
Jn [.int .u64] (fun J1=>
Lp [.int .u64,.int .i64] (fun (c:Int) (x1:Int) w4 C1=>
cond (decide ((x1:Int)<(b.n:Int))) (
ixa b x1 1 fun a4=>
ldc (.int .u64) w4 a4 fun (v2:Int)=>
cl Pg F.bits_Mul64 [.int .u64 v1,.int .u64 v2] w4 [.one (.int .u64),.one (.int .u64)] fun (r1:Int) (r2:Int) w5=>
add64 r2 c 0 fun s1 c1=>
bnd (wu (r1+c1)) fun n2=>
bnd (wi (x+x1)) fun n3=>
bnd (wi (x+x1)) fun n4=>
ixa s n4 1 fun a5=>
ldc (.int .u64) w5 a5 fun (v3:Int)=>
add64 v3 s1 0 fun s2 c2=>
ixa s n3 1 fun a6=>
stc w5 a6 (.int .u64 s2) fun w6=>
bnd (wu (n2+c2)) fun n5=>
bnd (wi (x1+1)) fun n6=>
C1 n5 n6 w6) (
J1 c w4)) 0 0 w3) fun (c3:Int) w7=>
bnd (wi (x+(b.n:Int))) fun n7=>
ixa s n7 1 fun a7=>
stc w7 a7 (.int .u64 c3) fun w8=>
bnd (wi (x+1)) fun n8=>
C0 n8 w8) (
J0 w3)) 0 w2) fun  w9=>
cl Pg F.limb_Norm [s.v] w9 [.one .slice] fun (s3:Sl) w10=>
R (s3.v) w10
theorem Ct.school_Engine_Mul {e0:Option Addr} {a:Sl} {b:Sl} {w:TW} {X:Nat→Prop} {K:KT [.one .slice]} (h:Sh.school_Engine_Mul e0 a b (Rt X [.one .slice] K w) w.here):Ct Pg F.school_Engine_Mul [.pointer e0,a.v,b.v] w X [.one .slice] K:=
 cod (Sh.school_Engine_Mul e0 a b) 94 [] [] [(2,0,[]),(3,4,[(37,.one (.int .i64))]),(2,2,[(10,.one (.int .u64))]),(3,8,[(10,.one (.int .u64)),(44,.one (.int .i64))])] f129 h
def Sh.school_New (t:HL I11) (R:Value→TW→Prop) (w:TW):Prop:=
nwv w fun w1=>
cl Pg F.table_New [.agg (encs I11 t).toArray] w1 [.one .ptr] fun (p:Option Addr) w2=>
nwb w2 [.pointer p] T.school_Engine fun b w3=>
R (.pointer (some ⟨b,0,none⟩)) w3
theorem Ct.school_New {t:HL I11} {w:TW} {X:Nat→Prop} {K:KT [.one .ptr]} (h:Sh.school_New t (Rt X [.one .ptr] K w) w.here):Ct Pg F.school_New [.agg (encs I11 t).toArray] w X [.one .ptr] K:=
 cod (Sh.school_New t) 7 [(1,7)] [(7,11)] [] f244 h
end Go.Proofs.YtjhfalgmgagdhaaGreatDoor.Zg
end

section
set_option maxRecDepth 100000
namespace Go.Proofs.YtjhfalgmgagdhaaGreatDoor.Zg
open Go.Proofs.Tryz
def Sh.table_Tune_Route (t:Option Addr) (n:Int) (m:Int) (R:Value→TW→Prop) (w:TW):Prop:=
nck t fun a=>
ldc (.int .i64) w ((a.add 3).add 0) fun (v:Int)=>
ldc (.int .i64) w ((a.add 3).add 1) fun (v1:Int)=>
ldc (.int .i64) w ((a.add 3).add 2) fun (v2:Int)=>
ldc (.int .i64) w ((a.add 3).add 3) fun (v3:Int)=>
ldc (.int .i64) w ((a.add 3).add 4) fun (v4:Int)=>
ldc (.int .i64) w ((a.add 3).add 5) fun (v5:Int)=>
ldc (.int .i64) w ((a.add 3).add 6) fun (v6:Int)=>
ldc (.int .i64) w ((a.add 3).add 7) fun (v7:Int)=>
ldc (.int .i64) w ((a.add 3).add 8) fun (v8:Int)=>
ldc (.int .i64) w ((a.add 3).add 9) fun (v9:Int)=>
ldc (.int .i64) w ((a.add 3).add 10) fun (v10:Int)=>
cl Pg F.table_Route [.agg #[.int .i64 v,.int .i64 v1,.int .i64 v2,.int .i64 v3,.int .i64 v4,.int .i64 v5,.int .i64 v6,.int .i64 v7,.int .i64 v8,.int .i64 v9,.int .i64 v10],.int .i64 n,.int .i64 m] w [.one (.int .i64)] fun (r:Int) w1=>
R (.int .i64 r) w1
theorem Ct.table_Tune_Route {t:Option Addr} {n:Int} {m:Int} {w:TW} {X:Nat→Prop} {K:KT [.one (.int .i64)]} (h:Sh.table_Tune_Route t n m (Rt X [.one (.int .i64)] K w) w.here):Ct Pg F.table_Tune_Route [.pointer t,.int .i64 n,.int .i64 m] w X [.one (.int .i64)] K:=
 cod (Sh.table_Tune_Route t n m) 14 [] [] [] f128 h
def Sh.table_Route (t:HL I11) (n:Int) (m:Int) (R:Value→TW→Prop) (w:TW):Prop:=
nwv w fun w1=>
Jn [.bool,.int .i64,.int .i64,.int .i64,.int .i64,.int .i64,.int .i64,.int .i64,.int .i64,.int .i64,.int .i64,.int .i64] (fun J0=>
cl Pg F.table_may [.int .i64 n] w1 [.one .bool] fun (ok:Bool) w2=>
cond (!ok) (
J0 true t.1 t.2.1 t.2.2.1 t.2.2.2.1 t.2.2.2.2.1 t.2.2.2.2.2.1 t.2.2.2.2.2.2.1 t.2.2.2.2.2.2.2.1 t.2.2.2.2.2.2.2.2.1 t.2.2.2.2.2.2.2.2.2.1 t.2.2.2.2.2.2.2.2.2.2.1 w2) (
cl Pg F.table_may [.int .i64 m] w2 [.one .bool] fun (ok1:Bool) w3=>
J0 (!ok1) t.1 t.2.1 t.2.2.1 t.2.2.2.1 t.2.2.2.2.1 t.2.2.2.2.2.1 t.2.2.2.2.2.2.1 t.2.2.2.2.2.2.2.1 t.2.2.2.2.2.2.2.2.1 t.2.2.2.2.2.2.2.2.2.1 t.2.2.2.2.2.2.2.2.2.2.1 w3)) fun (x:Bool) (t1:Int) (t2:Int) (t3:Int) (t4:Int) (t5:Int) (t6:Int) (t7:Int) (t8:Int) (t9:Int) (t10:Int) (t11:Int) w4=>
cond x (
R (.int .i64 0) w4) (
cl Pg F.table_Clamp [.agg #[.int .i64 t1,.int .i64 t2,.int .i64 t3,.int .i64 t4,.int .i64 t5,.int .i64 t6,.int .i64 t7,.int .i64 t8,.int .i64 t9,.int .i64 t10,.int .i64 t11]] w4 [.agg I11] fun (r:Int) (r1:Int) (r2:Int) (r3:Int) (r4:Int) (r5:Int) (r6:Int) (r7:Int) (r8:Int) (r9:Int) (r10:Int) w5=>
bnd (if (m:Int)>n then m else n) fun n1=>
bnd (if (m:Int)<n then m else n) fun n2=>
cl Pg F.table_route [.agg #[.int .i64 r,.int .i64 r1,.int .i64 r2,.int .i64 r3,.int .i64 r4,.int .i64 r5,.int .i64 r6,.int .i64 r7,.int .i64 r8,.int .i64 r9,.int .i64 r10],.int .i64 n1,.int .i64 n2] w5 [.one (.int .i64)] fun (r11:Int) w6=>
R (.int .i64 r11) w6)
theorem Ct.table_Route {t:HL I11} {n:Int} {m:Int} {w:TW} {X:Nat→Prop} {K:KT [.one (.int .i64)]} (h:Sh.table_Route t n m (Rt X [.one (.int .i64)] K w) w.here):Ct Pg F.table_Route [.agg (encs I11 t).toArray,.int .i64 n,.int .i64 m] w X [.one (.int .i64)] K:=
 cod (Sh.table_Route t n m) 24 [(3,24)] [(24,11)] [(0,1,[(14,.one .bool),(24,.one (.int .i64)),(25,.one (.int .i64)),(26,.one (.int .i64)),(27,.one (.int .i64)),(28,.one (.int .i64)),(29,.one (.int .i64)),(30,.one (.int .i64)),(31,.one (.int .i64)),(32,.one (.int .i64)),(33,.one (.int .i64)),(34,.one (.int .i64))])] f163 h
def Sh.table_may (n:Int) (R:Value→TW→Prop) (w:TW):Prop:=
Jn [.bool] (fun J0=>
cond (decide ((n:Int)≥0)) (
J0 (decide ((n:Int)≤16384)) w) (
J0 false w)) fun (x:Bool) w1=>
R (.bool x) w1
theorem Ct.table_may {n:Int} {w:TW} {X:Nat→Prop} {K:KT [.one .bool]} (h:Sh.table_may n (Rt X [.one .bool] K w) w.here):Ct Pg F.table_may [.int .i64 n] w X [.one .bool] K:=
 cod (Sh.table_may n) 9 [] [] [(0,1,[(2,.one .bool)])] f193 h
def Sh.table_route (t:HL I11) (n:Int) (m:Int) (R:Value→TW→Prop) (w:TW):Prop:=
nwv w fun w1=>
bnd (wi (n+2)) fun n1=>
divK .i64 n1 3 fun n2=>
cond ((m:Int) == 0) (
R (.int .i64 0) w1) (
cond (decide ((m:Int)<t.1)) (
R (.int .i64 1) w1) (
bnd (wi (2*m)) fun n3=>
bnd (wi (n+1)) fun n4=>
cond (decide ((n3:Int)≤n4)) (
R (.int .i64 2) w1) (
cond (decide ((m:Int)<t.2.1)) (
R (.int .i64 3) w1) (
bnd (wi (n+m)) fun n5=>
cond (decide ((n5:Int)≥t.2.2.1)) (
R (.int .i64 5) w1) (
bnd (wi (2*n2)) fun n6=>
cond (decide ((m:Int)>n6)) (
R (.int .i64 4) w1) (
R (.int .i64 3) w1))))))
theorem Ct.table_route {t:HL I11} {n:Int} {m:Int} {w:TW} {X:Nat→Prop} {K:KT [.one (.int .i64)]} (h:Sh.table_route t n m (Rt X [.one (.int .i64)] K w) w.here):Ct Pg F.table_route [.agg (encs I11 t).toArray,.int .i64 n,.int .i64 m] w X [.one (.int .i64)] K:=
 cod (Sh.table_route t n m) 42 [(3,42)] [(42,11)] [] f194 h
def Sh.table_Clamp (t:HL I11) (R:Value→TW→Prop) (w:TW):Prop:=
nwv w fun w1=>
nwv w1 fun w2=>
cl Pg F.table_within [.int .i64 t.1,.int .i64 4,.int .i64 64] w2.drew [.one (.int .i64)] fun (r:Int) w3=>
cl Pg F.table_within [.int .i64 t.2.1,.int .i64 12,.int .i64 8192] w3 [.one (.int .i64)] fun (r1:Int) w4=>
cl Pg F.table_within [.int .i64 t.2.2.1,.int .i64 64,.int .i64 16384] w4 [.one (.int .i64)] fun (r2:Int) w5=>
cl Pg F.table_within [.int .i64 t.2.2.2.1,.int .i64 4,.int .i64 1024] w5 [.one (.int .i64)] fun (r3:Int) w6=>
cl Pg F.table_within [.int .i64 t.2.2.2.2.1,.int .i64 4,.int .i64 4096] w6 [.one (.int .i64)] fun (r4:Int) w7=>
cl Pg F.table_within [.int .i64 t.2.2.2.2.2.1,.int .i64 2,.int .i64 1024] w7 [.one (.int .i64)] fun (r5:Int) w8=>
cl Pg F.table_within [.int .i64 t.2.2.2.2.2.2.1,.int .i64 2,.int .i64 1024] w8 [.one (.int .i64)] fun (r6:Int) w9=>
cl Pg F.table_within [.int .i64 t.2.2.2.2.2.2.2.1,.int .i64 4,.int .i64 256] w9 [.one (.int .i64)] fun (r7:Int) w10=>
cl Pg F.table_within [.int .i64 t.2.2.2.2.2.2.2.2.1,.int .i64 4,.int .i64 1024] w10 [.one (.int .i64)] fun (r8:Int) w11=>
cl Pg F.table_within [.int .i64 t.2.2.2.2.2.2.2.2.2.1,.int .i64 2,.int .i64 1024] w11 [.one (.int .i64)] fun (r9:Int) w12=>
cl Pg F.table_within [.int .i64 t.2.2.2.2.2.2.2.2.2.2.1,.int .i64 2,.int .i64 256] w12 [.one (.int .i64)] fun (r10:Int) w13=>
nwv w13 fun w14=>
R (.agg #[.int .i64 r,.int .i64 r1,.int .i64 r2,.int .i64 r3,.int .i64 r4,.int .i64 r5,.int .i64 r6,.int .i64 r7,.int .i64 r8,.int .i64 r9,.int .i64 r10]) w14
theorem Ct.table_Clamp {t:HL I11} {w:TW} {X:Nat→Prop} {K:KT [.agg I11]} (h:Sh.table_Clamp t (Rt X [.agg I11] K w) w.here):Ct Pg F.table_Clamp [.agg (encs I11 t).toArray] w X [.agg I11] K:=
 cod (Sh.table_Clamp t) 37 [(1,37),(2,48)] [(37,11),(48,11)] [] f195 h
def Sh.table_within (n:Int) (least:Int) (most:Int) (R:Value→TW→Prop) (w:TW):Prop:=
bnd (if (most:Int)<n then most else n) fun n1=>
bnd (if (n1:Int)>least then n1 else least) fun n2=>
R (.int .i64 n2) w
theorem Ct.table_within {n:Int} {least:Int} {most:Int} {w:TW} {X:Nat→Prop} {K:KT [.one (.int .i64)]} (h:Sh.table_within n least most (Rt X [.one (.int .i64)] K w) w.here):Ct Pg F.table_within [.int .i64 n,.int .i64 least,.int .i64 most] w X [.one (.int .i64)] K:=
 cod (Sh.table_within n least most) 12 [] [] [] f215 h
def Sh.table_New (t:HL I11) (R:Value→TW→Prop) (w:TW):Prop:=
nwv w fun w1=>
cl Pg F.table_Clamp [.agg (encs I11 t).toArray] w1 [.agg I11] fun (r:Int) (r1:Int) (r2:Int) (r3:Int) (r4:Int) (r5:Int) (r6:Int) (r7:Int) (r8:Int) (r9:Int) (r10:Int) w2=>
nwb w2 [.int .i64 0,.int .i64 0,.int .i64 0,.int .i64 r,.int .i64 r1,.int .i64 r2,.int .i64 r3,.int .i64 r4,.int .i64 r5,.int .i64 r6,.int .i64 r7,.int .i64 r8,.int .i64 r9,.int .i64 r10] T.table_Tune fun b w3=>
R (.pointer (some ⟨b,0,none⟩)) w3
theorem Ct.table_New {t:HL I11} {w:TW} {X:Nat→Prop} {K:KT [.one .ptr]} (h:Sh.table_New t (Rt X [.one .ptr] K w) w.here):Ct Pg F.table_New [.agg (encs I11 t).toArray] w X [.one .ptr] K:=
 cod (Sh.table_New t) 7 [(1,7)] [(7,11)] [] f245 h
end Go.Proofs.YtjhfalgmgagdhaaGreatDoor.Zg
end

section
set_option maxRecDepth 100000
namespace Go.Proofs.YtjhfalgmgagdhaaGreatDoor.Zg
open Go.Proofs.Tryz
def Sh.toom_Engine_Toom (e0:Option Addr) (a:Sl) (b:Sl) (inner:Value) (R:Value→TW→Prop) (w:TW):Prop:=
Jn [.slice,.slice] (fun J0=>
cond (decide (((a.n:Int):Int)<(b.n:Int))) (
J0 b a w) (
J0 a b w)) fun (a1:Sl) (b1:Sl) w1=>
bnd (wi ((a1.n:Int)+2)) fun n=>
divK .i64 n 3 fun n1=>
bnd (wi (2*n1)) fun n2=>
cond (decide (((b1.n:Int):Int)≤n2)) (
R (.tuple #[.slice none 0 0,.bool false]) w1) (
nck e0 fun a2=>
ldc (.ptr) w1 a2 fun (v:Option Addr)=>
nck v fun a3=>
ldc (.ptr) w1 a3 fun (v1:Option Addr)=>
nck v1 fun a4=>
ldc (.ptr) w1 a4 fun (v2:Option Addr)=>
nck v2 fun a5=>
cl Pg F.meter_Meter_Enter [.pointer (some a5)] w1 [.one (.int .i64)] fun (_:Int) w2=>
cl Pg F.toom_Points [a1.v,.int .i64 n1] w2 [.agg [.slice,.bool],.agg [.slice,.bool],.agg [.slice,.bool],.agg [.slice,.bool],.agg [.slice,.bool]] fun (r1:Sl) (_:Bool) (r3:Sl) (_:Bool) (r5:Sl) (r6:Bool) (r7:Sl) (_:Bool) (r9:Sl) (_:Bool) w3=>
nwv w3 fun w4=>
nwv w4 fun w5=>
nwv w5 fun w6=>
nwv w6 fun w7=>
nwv w7 fun w8=>
nwv w8 fun w9=>
nwv w9 fun w10=>
nwv w10 fun w11=>
nwv w11 fun w12=>
nwv w12 fun w13=>
cl Pg F.toom_Points [b1.v,.int .i64 n1] w13 [.agg [.slice,.bool],.agg [.slice,.bool],.agg [.slice,.bool],.agg [.slice,.bool],.agg [.slice,.bool]] fun (r11:Sl) (_:Bool) (r13:Sl) (_:Bool) (r15:Sl) (r16:Bool) (r17:Sl) (_:Bool) (r19:Sl) (_:Bool) w14=>
nwv w14 fun w15=>
nwv w15 fun w16=>
nwv w16 fun w17=>
nwv w17 fun w18=>
nwv w18 fun w19=>
nwv w19 fun w20=>
nwv w20 fun w21=>
nwv w21 fun w22=>
nwv w22 fun w23=>
nwv w23 fun w24=>
cl Pg F.toom_wide [r1.v,.int .i64 n1] w24.drew [.one .slice] fun (s:Sl) w25=>
cl Pg F.toom_wide [r11.v,.int .i64 n1] w25 [.one .slice] fun (s1:Sl) w26=>
clv Pg inner [s.v,s1.v] w26 [.one .slice] fun (s2:Sl) w27=>
bnd (wi (n1+1)) fun n3=>
bnd (wi (n1+1)) fun n4=>
cl Pg F.toom_wide [r3.v,.int .i64 n3] w27.drew [.one .slice] fun (s3:Sl) w28=>
cl Pg F.toom_wide [r13.v,.int .i64 n4] w28 [.one .slice] fun (s4:Sl) w29=>
clv Pg inner [s3.v,s4.v] w29 [.one .slice] fun (s5:Sl) w30=>
bnd (wi (n1+1)) fun n5=>
bnd (wi (n1+1)) fun n6=>
cl Pg F.toom_wide [r5.v,.int .i64 n5] w30.drew [.one .slice] fun (s6:Sl) w31=>
cl Pg F.toom_wide [r15.v,.int .i64 n6] w31 [.one .slice] fun (s7:Sl) w32=>
clv Pg inner [s6.v,s7.v] w32 [.one .slice] fun (s8:Sl) w33=>
bnd (wi (n1+1)) fun n7=>
bnd (wi (n1+1)) fun n8=>
cl Pg F.toom_wide [r7.v,.int .i64 n7] w33.drew [.one .slice] fun (s9:Sl) w34=>
cl Pg F.toom_wide [r17.v,.int .i64 n8] w34 [.one .slice] fun (s10:Sl) w35=>
clv Pg inner [s9.v,s10.v] w35 [.one .slice] fun (s11:Sl) w36=>
bnd (wi (2*n1)) fun n9=>
bnd (wi ((a1.n:Int)-n9)) fun n10=>
bnd (wi (2*n1)) fun n11=>
bnd (wi ((b1.n:Int)-n11)) fun n12=>
cl Pg F.toom_wide [r9.v,.int .i64 n10] w36.drew [.one .slice] fun (s12:Sl) w37=>
cl Pg F.toom_wide [r19.v,.int .i64 n12] w37 [.one .slice] fun (s13:Sl) w38=>
clv Pg inner [s12.v,s13.v] w38 [.one .slice] fun (s14:Sl) w39=>
nck e0 fun a6=>
ldc (.ptr) w39 a6 fun (v3:Option Addr)=>
nck v3 fun a7=>
ldc (.ptr) w39 a7 fun (v4:Option Addr)=>
nck v4 fun a8=>
ldc (.ptr) w39 a8 fun (v5:Option Addr)=>
nck v5 fun a9=>
cl Pg F.meter_Meter_Leave [.pointer (some a9)] w39 [.one (.int .i64)] fun (_:Int) w40=>
cl Pg F.toom_joined [.int .i64 n1,s2.v,s5.v,s8.v,s11.v,s14.v,.bool (!(r6 == r16))] w40 [.one .slice] fun (s15:Sl) w41=>
R (.tuple #[s15.v,.bool true]) w41)
theorem Ct.toom_Engine_Toom {e0:Option Addr} {a:Sl} {b:Sl} {inner:Value} {w:TW} {X:Nat→Prop} {K:KT [.one .slice,.one .bool]} (h:Sh.toom_Engine_Toom e0 a b inner (Rt X [.one .slice,.one .bool] K w) w.here):Ct Pg F.toom_Engine_Toom [.pointer e0,a.v,b.v,inner] w X [.one .slice,.one .bool] K:=
 cod (Sh.toom_Engine_Toom e0 a b inner) 164 [(13,164),(14,166),(15,168),(16,170),(17,172),(18,174),(19,176),(20,178),(21,180),(22,182)] [(164,2),(166,2),(168,2),(170,2),(172,2),(174,2),(176,2),(178,2),(180,2),(182,2)] [(1,2,[(1,.one .slice),(2,.one .slice)])] f161 h
def Sh.toom_Points (a:Sl) (k:Int) (R:Value→TW→Prop) (w:TW):Prop:=
nwv w fun w1=>
nwv w1 fun w2=>
nwv w2 fun w3=>
nwv w3 fun w4=>
nwv w4 fun w5=>
bnd (if (16384:Int)<k then 16384 else k) fun n=>
bnd (if (n:Int)>1 then n else 1) fun n1=>
cl Pg F.limb_Norm [a.v] w5 [.one .slice] fun (s:Sl) w6=>
cl Pg F.toom_part [s.v,.int .i64 0,.int .i64 n1] w6 [.one .slice] fun (s1:Sl) w7=>
bnd (wi (2*n1)) fun n2=>
cl Pg F.toom_part [s.v,.int .i64 n1,.int .i64 n2] w7 [.one .slice] fun (s2:Sl) w8=>
bnd (wi (2*n1)) fun n3=>
cl Pg F.toom_part [s.v,.int .i64 n3,.int .i64 (s.n:Int)] w8 [.one .slice] fun (s3:Sl) w9=>
cl Pg F.limb_Add [s1.v,s3.v] w9 [.one .slice] fun (s4:Sl) w10=>
cl Pg F.limb_Norm [s1.v] w10 [.one .slice] fun (s5:Sl) w11=>
nwv w11 fun w12=>
cl Pg F.limb_Add [s4.v,s2.v] w12 [.one .slice] fun (s6:Sl) w13=>
nwv w13 fun w14=>
cl Pg F.toom_less [s4.v,s2.v] w14 [.agg [.slice,.bool]] fun (r:Sl) (r1:Bool) w15=>
nwv w15 fun w16=>
cl Pg F.limb_Shl [s2.v,.int .i64 1] w16 [.one .slice] fun (s7:Sl) w17=>
cl Pg F.limb_Shl [s3.v,.int .i64 2] w17 [.one .slice] fun (s8:Sl) w18=>
nwb w18 [s1.v,s7.v,s8.v] T.api_Nat fun b w19=>
cl Pg F.limb_Sum [.slice (some ⟨b,0,none⟩) 3 3] w19 [.one .slice] fun (s9:Sl) w20=>
nwv w20 fun w21=>
cl Pg F.limb_Norm [s3.v] w21 [.one .slice] fun (s10:Sl) w22=>
nwv w22 fun w23=>
nwv w23.drew fun w24=>
nwv w24 fun w25=>
nwv w25 fun w26=>
nwv w26 fun w27=>
nwv w27 fun w28=>
R (.tuple #[.agg #[s5.v,.bool false],.agg #[s6.v,.bool false],.agg #[r.v,.bool r1],.agg #[s9.v,.bool false],.agg #[s10.v,.bool false]]) w28
theorem Ct.toom_Points {a:Sl} {k:Int} {w:TW} {X:Nat→Prop} {K:KT [.agg [.slice,.bool],.agg [.slice,.bool],.agg [.slice,.bool],.agg [.slice,.bool],.agg [.slice,.bool]]} (h:Sh.toom_Points a k (Rt X [.agg [.slice,.bool],.agg [.slice,.bool],.agg [.slice,.bool],.agg [.slice,.bool],.agg [.slice,.bool]] K w) w.here):Ct Pg F.toom_Points [a.v,.int .i64 k] w X [.agg [.slice,.bool],.agg [.slice,.bool],.agg [.slice,.bool],.agg [.slice,.bool],.agg [.slice,.bool]] K:=
 cod (Sh.toom_Points a k) 61 [(4,61),(5,63),(6,65),(7,67),(8,69)] [(61,2),(63,2),(65,2),(67,2),(69,2)] [] f189 h
def Sh.toom_wide (a:Sl) (n:Int) (R:Value→TW→Prop) (w:TW):Prop:=
mks w n n T.uint64 8 [.int .u64 0] fun s w1=>
cl Pg F.api_Nat_Len [a.v] w1 [.one (.int .i64)] fun (r:Int) w2=>
slc a 0 r 1 fun s1=>
cpy w2 T.uint64 s s1 fun _ w3=>
R (s.v) w3
theorem Ct.toom_wide {a:Sl} {n:Int} {w:TW} {X:Nat→Prop} {K:KT [.one .slice]} (h:Sh.toom_wide a n (Rt X [.one .slice] K w) w.here):Ct Pg F.toom_wide [a.v,.int .i64 n] w X [.one .slice] K:=
 cod (Sh.toom_wide a n) 15 [] [] [] f190 h
def Sh.toom_joined (k:Int) (r0:Sl) (r1:Sl) (rm:Sl) (r2:Sl) (inf:Sl) (neg:Bool) (R:Value→TW→Prop) (w:TW):Prop:=
cl Pg F.limb_Add [r1.v,rm.v] w [.one .slice] fun (s:Sl) w1=>
cl Pg F.toom_sub2 [r1.v,rm.v] w1 [.one .slice] fun (s1:Sl) w2=>
Jn [.slice,.slice] (fun J0=>
cond neg (
J0 s1 s w2) (
J0 s s1 w2)) fun (even:Sl) (odd:Sl) w3=>
cl Pg F.limb_Shr [even.v,.int .i64 1] w3 [.one .slice] fun (s2:Sl) w4=>
cl Pg F.limb_Shr [odd.v,.int .i64 1] w4 [.one .slice] fun (s3:Sl) w5=>
nwb w5 [r0.v,inf.v] T.api_Nat fun b w6=>
cl Pg F.toom_sub [s2.v,.slice (some ⟨b,0,none⟩) 2 2] w6 [.one .slice] fun (s4:Sl) w7=>
cl Pg F.limb_Shl [s4.v,.int .i64 2] w7 [.one .slice] fun (s5:Sl) w8=>
cl Pg F.limb_Shl [inf.v,.int .i64 4] w8 [.one .slice] fun (s6:Sl) w9=>
nwb w9 [r0.v,s5.v,s6.v] T.api_Nat fun b1 w10=>
cl Pg F.toom_sub [r2.v,.slice (some ⟨b1,0,none⟩) 3 3] w10 [.one .slice] fun (s7:Sl) w11=>
cl Pg F.limb_Shr [s7.v,.int .i64 1] w11 [.one .slice] fun (s8:Sl) w12=>
nwb w12 [s3.v] T.api_Nat fun b2 w13=>
cl Pg F.toom_sub [s8.v,.slice (some ⟨b2,0,none⟩) 1 1] w13 [.one .slice] fun (s9:Sl) w14=>
cl Pg F.toom_Third [s9.v] w14 [.one .slice,.one .bool] fun (s10:Sl) (_:Bool) w15=>
nwb w15 [s10.v] T.api_Nat fun b3 w16=>
cl Pg F.toom_sub [s3.v,.slice (some ⟨b3,0,none⟩) 1 1] w16 [.one .slice] fun (s11:Sl) w17=>
nwb w17 [r0.v,s11.v,s4.v,s10.v,inf.v] T.api_Nat fun b4 w18=>
cl Pg F.limb_Join [.int .i64 k,.slice (some ⟨b4,0,none⟩) 5 5] w18 [.one .slice] fun (s12:Sl) w19=>
R (s12.v) w19
theorem Ct.toom_joined {k:Int} {r0:Sl} {r1:Sl} {rm:Sl} {r2:Sl} {inf:Sl} {neg:Bool} {w:TW} {X:Nat→Prop} {K:KT [.one .slice]} (h:Sh.toom_joined k r0 r1 rm r2 inf neg (Rt X [.one .slice] K w) w.here):Ct Pg F.toom_joined [.int .i64 k,r0.v,r1.v,rm.v,r2.v,inf.v,.bool neg] w X [.one .slice] K:=
 cod (Sh.toom_joined k r0 r1 rm r2 inf neg) 69 [] [] [(1,3,[(15,.one .slice),(16,.one .slice)])] f191 h
def Sh.toom_part (a:Sl) (from0:Int) (to:Int) (R:Value→TW→Prop) (w:TW):Prop:=
cond (decide ((from0:Int)≥(a.n:Int))) (
R (.slice none 0 0) w) (
bnd (if ((a.n:Int):Int)<to then (a.n:Int) else to) fun n=>
slc a from0 n 1 fun s=>
R (s.v) w)
theorem Ct.toom_part {a:Sl} {from0:Int} {to:Int} {w:TW} {X:Nat→Prop} {K:KT [.one .slice]} (h:Sh.toom_part a from0 to (Rt X [.one .slice] K w) w.here):Ct Pg F.toom_part [a.v,.int .i64 from0,.int .i64 to] w X [.one .slice] K:=
 cod (Sh.toom_part a from0 to) 18 [] [] [] f209 h
def Sh.toom_less (a:Sl) (b:Sl) (R:Value→TW→Prop) (w:TW):Prop:=
nwv w fun w1=>
cl Pg F.limb_Sub [a.v,b.v] w1 [.one .slice,.one .bool] fun (s:Sl) (ok:Bool) w2=>
cond ok (
nwv w2 fun w3=>
R (.agg #[s.v,.bool false]) w3) (
cl Pg F.limb_Sub [b.v,a.v] w2 [.one .slice,.one .bool] fun (s1:Sl) (_:Bool) w4=>
nwv w4 fun w5=>
R (.agg #[s1.v,.bool true]) w5)
theorem Ct.toom_less {a:Sl} {b:Sl} {w:TW} {X:Nat→Prop} {K:KT [.agg [.slice,.bool]]} (h:Sh.toom_less a b (Rt X [.agg [.slice,.bool]] K w) w.here):Ct Pg F.toom_less [a.v,b.v] w X [.agg [.slice,.bool]] K:=
 cod (Sh.toom_less a b) 26 [(4,26)] [(26,2)] [] f210 h
def Sh.toom_sub2 (a:Sl) (b:Sl) (R:Value→TW→Prop) (w:TW):Prop:=
cl Pg F.limb_Sub [a.v,b.v] w [.one .slice,.one .bool] fun (s:Sl) (_:Bool) w1=>
R (s.v) w1
theorem Ct.toom_sub2 {a:Sl} {b:Sl} {w:TW} {X:Nat→Prop} {K:KT [.one .slice]} (h:Sh.toom_sub2 a b (Rt X [.one .slice] K w) w.here):Ct Pg F.toom_sub2 [a.v,b.v] w X [.one .slice] K:=
 cod (Sh.toom_sub2 a b) 14 [] [] [] f212 h
def Sh.toom_sub (a:Sl) (l:Sl) (R:Value→TW→Prop) (w:TW):Prop:=
cl Pg F.limb_Sum [l.v] w [.one .slice] fun (s:Sl) w1=>
cl Pg F.limb_Sub [a.v,s.v] w1 [.one .slice,.one .bool] fun (s1:Sl) (_:Bool) w2=>
R (s1.v) w2
theorem Ct.toom_sub {a:Sl} {l:Sl} {w:TW} {X:Nat→Prop} {K:KT [.one .slice]} (h:Sh.toom_sub a l (Rt X [.one .slice] K w) w.here):Ct Pg F.toom_sub [a.v,l.v] w X [.one .slice] K:=
 cod (Sh.toom_sub a l) 15 [] [] [] f213 h
def Sh.toom_Third (a:Sl) (R:Value→TW→Prop) (w:TW):Prop:=
cl Pg F.limb_Norm [a.v] w [.one .slice] fun (s:Sl) w1=>
Jn [.int .u64] (fun J0=>
Lp [.int .u64,.int .i64] (fun (c:Int) (x:Int) w2 C0=>
cond (decide ((x:Int)<(s.n:Int))) (
ixa s x 1 fun a1=>
ldc (.int .u64) w2 a1 fun (v:Int)=>
sub64 v c 0 fun s1 c1=>
bnd (wu (s1*12297829382473034411)) fun n=>
ixa s x 1 fun a2=>
stc w2 a2 (.int .u64 n) fun w3=>
cl Pg F.bits_Mul64 [.int .u64 n,.int .u64 3] w3 [.one (.int .u64),.one (.int .u64)] fun (r:Int) (_:Int) w4=>
bnd (wu (r+c1)) fun n1=>
bnd (wi (x+1)) fun n2=>
C0 n1 n2 w4) (
J0 c w2)) 0 0 w1) fun (c2:Int) w5=>
cond ((c2:Int) != 0) (
R (.tuple #[.slice none 0 0,.bool false]) w5) (
cl Pg F.limb_Norm [s.v] w5 [.one .slice] fun (s2:Sl) w6=>
R (.tuple #[s2.v,.bool true]) w6)
theorem Ct.toom_Third {a:Sl} {w:TW} {X:Nat→Prop} {K:KT [.one .slice,.one .bool]} (h:Sh.toom_Third a (Rt X [.one .slice,.one .bool] K w) w.here):Ct Pg F.toom_Third [a.v] w X [.one .slice,.one .bool] K:=
 cod (Sh.toom_Third a) 46 [] [] [(2,0,[(4,.one (.int .u64))]),(3,4,[(4,.one (.int .u64)),(16,.one (.int .i64))])] f214 h
def Sh.toom_New (t:HL I11) (R:Value→TW→Prop) (w:TW):Prop:=
nwv w fun w1=>
cl Pg F.kara_New [.agg (encs I11 t).toArray] w1 [.one .ptr] fun (p:Option Addr) w2=>
nwb w2 [.pointer p] T.toom_Engine fun b w3=>
R (.pointer (some ⟨b,0,none⟩)) w3
theorem Ct.toom_New {t:HL I11} {w:TW} {X:Nat→Prop} {K:KT [.one .ptr]} (h:Sh.toom_New t (Rt X [.one .ptr] K w) w.here):Ct Pg F.toom_New [.agg (encs I11 t).toArray] w X [.one .ptr] K:=
 cod (Sh.toom_New t) 7 [(1,7)] [(7,11)] [] f242 h
end Go.Proofs.YtjhfalgmgagdhaaGreatDoor.Zg
end

section
set_option maxRecDepth 100000
namespace Go.Proofs.YtjhfalgmgagdhaaGreatDoor.Zg
open Go.Proofs.Tryz
def Sh.word_Inverse2 (d1:Int) (d0:Int) (R:Value→TW→Prop) (w:TW):Prop:=
cl Pg F.word_Inverse [.int .u64 d1] w [.one (.int .u64),.one .bool] fun (r:Int) (ok:Bool) w1=>
cond (!ok) (
R (.tuple #[.int .u64 0,.bool false]) w1) (
bnd (wu (d1*r)) fun n=>
bnd (wu (n+d0)) fun n1=>
Jn [.int .u64,.int .u64] (fun J0=>
cond (decide ((n1:Int)<d0)) (
bnd (wu (r-1)) fun n2=>
Jn [.int .u64,.int .u64] (fun J1=>
cond (decide ((n1:Int)≥d1)) (
bnd (wu (n2-1)) fun n3=>
bnd (wu (n1-d1)) fun n4=>
J1 n3 n4 w1) (
J1 n2 n1 w1)) fun (v:Int) (p:Int) w2=>
bnd (wu (p-d1)) fun n5=>
J0 v n5 w2) (
J0 r n1 w1)) fun (v1:Int) (p1:Int) w3=>
cl Pg F.bits_Mul64 [.int .u64 v1,.int .u64 d0] w3 [.one (.int .u64),.one (.int .u64)] fun (r1:Int) (r2:Int) w4=>
bnd (wu (p1+r1)) fun n6=>
Jn [.int .u64] (fun J2=>
cond (decide ((n6:Int)<r1)) (
bnd (wu (v1-1)) fun n7=>
Jn [.bool] (fun J3=>
cond (decide ((n6:Int)>d1)) (
J3 true w4) (
cond ((n6:Int) == d1) (
J3 (decide ((r2:Int)≥d0)) w4) (
J3 false w4))) fun (x:Bool) w5=>
Jn [.int .u64] (fun J4=>
cond x (
bnd (wu (n7-1)) fun n8=>
J4 n8 w5) (
J4 n7 w5)) fun (v2:Int) w6=>
J2 v2 w6) (
J2 v1 w4)) fun (v3:Int) w7=>
R (.tuple #[.int .u64 v3,.bool true]) w7)
theorem Ct.word_Inverse2 {d1:Int} {d0:Int} {w:TW} {X:Nat→Prop} {K:KT [.one (.int .u64),.one .bool]} (h:Sh.word_Inverse2 d1 d0 (Rt X [.one (.int .u64),.one .bool] K w) w.here):Ct Pg F.word_Inverse2 [.int .u64 d1,.int .u64 d0] w X [.one (.int .u64),.one .bool] K:=
 cod (Sh.word_Inverse2 d1 d0) 69 [] [] [(1,6,[(6,.one (.int .u64)),(8,.one (.int .u64))]),(1,8,[(6,.one (.int .u64)),(8,.one (.int .u64))]),(1,14,[(6,.one (.int .u64))]),(0,15,[(65,.one .bool)]),(1,16,[(6,.one (.int .u64))])] f119 h
def Sh.word_Inverse (d:Int) (R:Value→TW→Prop) (w:TW):Prop:=
cond (decide ((d:Int)<9223372036854775808)) (
R (.tuple #[.int .u64 0,.bool false]) w) (
bnd (bits2 .xor .u64 IntKind.u64.max d) fun n=>
cl Pg F.bits_Div64 [.int .u64 n,.int .u64 18446744073709551615,.int .u64 d] w [.one (.int .u64),.one (.int .u64)] fun (r:Int) (_:Int) w1=>
R (.tuple #[.int .u64 r,.bool true]) w1)
theorem Ct.word_Inverse {d:Int} {w:TW} {X:Nat→Prop} {K:KT [.one (.int .u64),.one .bool]} (h:Sh.word_Inverse d (Rt X [.one (.int .u64),.one .bool] K w) w.here):Ct Pg F.word_Inverse [.int .u64 d] w X [.one (.int .u64),.one .bool] K:=
 cod (Sh.word_Inverse d) 16 [] [] [] f151 h
def Sh.word_Div3 (a2:Int) (a1:Int) (a0:Int) (d1:Int) (d0:Int) (v:Int) (R:Value→TW→Prop) (w:TW):Prop:=
Jn [.bool] (fun J0=>
cond (decide ((d1:Int)<9223372036854775808)) (
J0 true w) (
cl Pg F.word_below [.int .u64 a2,.int .u64 a1,.int .u64 d1,.int .u64 d0] w [.one .bool] fun (ok:Bool) w1=>
J0 (!ok) w1)) fun (x:Bool) w2=>
cond x (
R (.tuple #[.int .u64 0,.int .u64 0,.int .u64 0,.bool false]) w2) (
cl Pg F.bits_Mul64 [.int .u64 v,.int .u64 a2] w2 [.one (.int .u64),.one (.int .u64)] fun (r:Int) (r1:Int) w3=>
add64 r1 a1 0 fun s c=>
add64 r a2 c fun s1 _=>
bnd (wu (s1*d1)) fun n=>
bnd (wu (a1-n)) fun n1=>
cl Pg F.bits_Mul64 [.int .u64 d0,.int .u64 s1] w3 [.one (.int .u64),.one (.int .u64)] fun (r2:Int) (r3:Int) w4=>
sub64 a0 r3 0 fun s2 c2=>
sub64 n1 r2 c2 fun s3 _=>
sub64 s2 d0 0 fun s4 c4=>
sub64 s3 d1 c4 fun s5 _=>
bnd (wu (s1+1)) fun n2=>
Jn [.int .u64,.int .u64,.int .u64] (fun J1=>
cond (decide ((s5:Int)≥s)) (
bnd (wu (n2-1)) fun n3=>
add64 s4 d0 0 fun s6 c6=>
add64 s5 d1 c6 fun s7 _=>
J1 s7 s6 n3 w4) (
J1 s5 s4 n2 w4)) fun (r11:Int) (r0:Int) (q1:Int) w5=>
cl Pg F.word_below [.int .u64 r11,.int .u64 r0,.int .u64 d1,.int .u64 d0] w5 [.one .bool] fun (ok1:Bool) w6=>
Jn [.int .u64,.int .u64,.int .u64] (fun J2=>
cond (!ok1) (
bnd (wu (q1+1)) fun n4=>
sub64 r0 d0 0 fun s8 c8=>
sub64 r11 d1 c8 fun s9 _=>
J2 s9 s8 n4 w6) (
J2 r11 r0 q1 w6)) fun (r12:Int) (r01:Int) (q11:Int) w7=>
R (.tuple #[.int .u64 q11,.int .u64 r12,.int .u64 r01,.bool true]) w7)
theorem Ct.word_Div3 {a2:Int} {a1:Int} {a0:Int} {d1:Int} {d0:Int} {v:Int} {w:TW} {X:Nat→Prop} {K:KT [.one (.int .u64),.one (.int .u64),.one (.int .u64),.one .bool]} (h:Sh.word_Div3 a2 a1 a0 d1 d0 v (Rt X [.one (.int .u64),.one (.int .u64),.one (.int .u64),.one .bool] K w) w.here):Ct Pg F.word_Div3 [.int .u64 a2,.int .u64 a1,.int .u64 a0,.int .u64 d1,.int .u64 d0,.int .u64 v] w X [.one (.int .u64),.one (.int .u64),.one (.int .u64),.one .bool] K:=
 cod (Sh.word_Div3 a2 a1 a0 d1 d0 v) 131 [] [] [(0,1,[(30,.one .bool)]),(1,14,[(13,.one (.int .u64)),(14,.one (.int .u64)),(16,.one (.int .u64))]),(1,18,[(13,.one (.int .u64)),(14,.one (.int .u64)),(16,.one (.int .u64))])] f152 h
def Sh.word_below (a1:Int) (a0:Int) (b1:Int) (b0:Int) (R:Value→TW→Prop) (w:TW):Prop:=
Jn [.bool] (fun J0=>
cond (decide ((a1:Int)<b1)) (
J0 true w) (
cond ((a1:Int) == b1) (
J0 (decide ((a0:Int)<b0)) w) (
J0 false w))) fun (x:Bool) w1=>
R (.bool x) w1
theorem Ct.word_below {a1:Int} {a0:Int} {b1:Int} {b0:Int} {w:TW} {X:Nat→Prop} {K:KT [.one .bool]} (h:Sh.word_below a1 a0 b1 b0 (Rt X [.one .bool] K w) w.here):Ct Pg F.word_below [.int .u64 a1,.int .u64 a0,.int .u64 b1,.int .u64 b0] w X [.one .bool] K:=
 cod (Sh.word_below a1 a0 b1 b0) 22 [] [] [(0,1,[(8,.one .bool)])] f183 h
end Go.Proofs.YtjhfalgmgagdhaaGreatDoor.Zg
end

section
set_option maxRecDepth 100000
namespace Go.Proofs.YtjhfalgmgagdhaaGreatDoor.Zg
open Go.Proofs.Tryz
def Sh.zigguratkeep_Within (v:Int) (n:Int) (R:Value→TW→Prop) (w:TW):Prop:=
cond (decide ((n:Int)<1)) (
R (.int .i64 0) w) (
remK v n fun n1=>
Jn [.int .i64] (fun J0=>
cond (decide ((n1:Int)<0)) (
bnd (wi (n1+n)) fun n2=>
J0 n2 w) (
J0 n1 w)) fun (k:Int) w1=>
R (.int .i64 k) w1)
theorem Ct.zigguratkeep_Within {v:Int} {n:Int} {w:TW} {X:Nat→Prop} {K:KT [.one (.int .i64)]} (h:Sh.zigguratkeep_Within v n (Rt X [.one (.int .i64)] K w) w.here):Ct Pg F.zigguratkeep_Within [.int .i64 v,.int .i64 n] w X [.one (.int .i64)] K:=
 cod (Sh.zigguratkeep_Within v n) 17 [] [] [(1,5,[(5,.one (.int .i64))])] f9 h
def Sh.zigguratkeep_Same (a:Sl) (b:Sl) (R:Value→TW→Prop) (w:TW):Prop:=
cond (((a.n:Int):Int) != (b.n:Int)) (
R (.bool false) w) (
Jn [] (fun J0=>
Lp [.int .i64] (fun (i:Int) w1 C0=>
cond (decide ((i:Int)<(a.n:Int))) (
ixa a i 1 fun a1=>
ldc (.int .u64) w1.drew a1 fun (v:Int)=>
ixa b i 1 fun a2=>
ldc (.int .u64) w1.drew a2 fun (v1:Int)=>
cond ((v:Int) != v1) (
R (.bool false) w1.drew) (
bnd (wi (i+1)) fun n=>
C0 n w1.drew)) (
J0 w1)) 0 w) fun  w2=>
R (.bool true) w2)
theorem Ct.zigguratkeep_Same {a:Sl} {b:Sl} {w:TW} {X:Nat→Prop} {K:KT [.one .bool]} (h:Sh.zigguratkeep_Same a b (Rt X [.one .bool] K w) w.here):Ct Pg F.zigguratkeep_Same [a.v,b.v] w X [.one .bool] K:=
 cod (Sh.zigguratkeep_Same a b) 26 [] [] [(2,0,[]),(3,4,[(5,.one (.int .i64))])] f15 h
def Sh.zigguratkeep_CopyInts (a:Sl) (R:Value→TW→Prop) (w:TW):Prop:=
Jn [.slice] (fun J0=>
Lp [.slice,.int .i64] (fun (out:Sl) (i:Int) w1 C0=>
cond (decide ((i:Int)<(a.n:Int))) (
ixa a i 2 fun a1=>
ldc (.slice) w1 (a1.add 0) fun (v:Sl)=>
ldc (.bool) w1 (a1.add 1) fun (v1:Bool)=>
cl Pg F.zigguratkeep_CopyInt [.agg #[v.v,.bool v1]] w1 [.agg [.slice,.bool]] fun (r:Sl) (r1:Bool) w2=>
nwb w2 [r.v,.bool r1] T.api_Int fun b w3=>
apd w3 T.api_Int 2 32 out ⟨(some ⟨b,0,none⟩),1,1⟩ fun s w4=>
bnd (wi (i+1)) fun n=>
C0 s n w4) (
J0 out w1)) Sl.nil 0 w) fun (out1:Sl) w5=>
R (out1.v) w5
theorem Ct.zigguratkeep_CopyInts {a:Sl} {w:TW} {X:Nat→Prop} {K:KT [.one .slice]} (h:Sh.zigguratkeep_CopyInts a (Rt X [.one .slice] K w) w.here):Ct Pg F.zigguratkeep_CopyInts [a.v] w X [.one .slice] K:=
 cod (Sh.zigguratkeep_CopyInts a) 20 [] [] [(2,0,[(3,.one .slice)]),(3,3,[(3,.one .slice),(4,.one (.int .i64))])] f18 h
def Sh.zigguratkeep_Ints (a:Sl) (b:Sl) (R:Value→TW→Prop) (w:TW):Prop:=
cond (((a.n:Int):Int) != (b.n:Int)) (
R (.bool false) w) (
Jn [] (fun J0=>
Lp [.int .i64] (fun (i:Int) w1 C0=>
cond (decide ((i:Int)<(a.n:Int))) (
ixa a i 2 fun a1=>
ldc (.slice) w1.drew (a1.add 0) fun (v:Sl)=>
ldc (.bool) w1.drew (a1.add 1) fun (v1:Bool)=>
ixa b i 2 fun a2=>
ldc (.slice) w1.drew (a2.add 0) fun (v2:Sl)=>
ldc (.bool) w1.drew (a2.add 1) fun (v3:Bool)=>
cl Pg F.zigguratkeep_Int [.agg #[v.v,.bool v1],.agg #[v2.v,.bool v3]] w1.drew [.one .bool] fun (ok:Bool) w2=>
cond (!ok) (
R (.bool false) w2) (
bnd (wi (i+1)) fun n=>
C0 n w2)) (
J0 w1)) 0 w) fun  w3=>
R (.bool true) w3)
theorem Ct.zigguratkeep_Ints {a:Sl} {b:Sl} {w:TW} {X:Nat→Prop} {K:KT [.one .bool]} (h:Sh.zigguratkeep_Ints a b (Rt X [.one .bool] K w) w.here):Ct Pg F.zigguratkeep_Ints [a.v,b.v] w X [.one .bool] K:=
 cod (Sh.zigguratkeep_Ints a b) 27 [] [] [(2,0,[]),(3,4,[(5,.one (.int .i64))])] f27 h
def Sh.zigguratkeep_CutInts (a:Sl) (k:Int) (n:Int) (R:Value→TW→Prop) (w:TW):Prop:=
Jn [.slice] (fun J0=>
Lp [.slice,.int .i64] (fun (out:Sl) (i:Int) w1 C0=>
Jn [.bool] (fun J1=>
cond (decide ((i:Int)<(a.n:Int))) (
J1 (decide ((i:Int)<k)) w1) (
J1 false w1)) fun (x:Bool) w2=>
cond x (
ixa a i 2 fun a1=>
ldc (.slice) w2 (a1.add 0) fun (v:Sl)=>
ldc (.bool) w2 (a1.add 1) fun (v1:Bool)=>
cl Pg F.zigguratkeep_CutInt [.agg #[v.v,.bool v1],.int .i64 n] w2 [.agg [.slice,.bool]] fun (r:Sl) (r1:Bool) w3=>
nwb w3 [r.v,.bool r1] T.api_Int fun b w4=>
apd w4 T.api_Int 2 32 out ⟨(some ⟨b,0,none⟩),1,1⟩ fun s w5=>
bnd (wi (i+1)) fun n1=>
C0 s n1 w5) (
J0 out w2)) Sl.nil 0 w) fun (out1:Sl) w6=>
R (out1.v) w6
theorem Ct.zigguratkeep_CutInts {a:Sl} {k:Int} {n:Int} {w:TW} {X:Nat→Prop} {K:KT [.one .slice]} (h:Sh.zigguratkeep_CutInts a k n (Rt X [.one .slice] K w) w.here):Ct Pg F.zigguratkeep_CutInts [a.v,.int .i64 k,.int .i64 n] w X [.one .slice] K:=
 cod (Sh.zigguratkeep_CutInts a k n) 30 [] [] [(2,0,[(7,.one .slice)]),(3,3,[(7,.one .slice),(8,.one (.int .i64))]),(0,3,[(17,.one .bool)])] f29 h
def Sh.zigguratkeep_Int (a0:Sl) (a1:Bool) (b0:Sl) (b1:Bool) (R:Value→TW→Prop) (w:TW):Prop:=
nwv w fun w1=>
nwv w1 fun w2=>
Jn [.bool] (fun J0=>
cond (a1 == b1) (
cl Pg F.zigguratkeep_Same [a0.v,b0.v] w2 [.one .bool] fun (ok:Bool) w3=>
J0 ok w3) (
J0 false w2)) fun (x:Bool) w4=>
R (.bool x) w4
theorem Ct.zigguratkeep_Int {a0:Sl} {a1:Bool} {b0:Sl} {b1:Bool} {w:TW} {X:Nat→Prop} {K:KT [.one .bool]} (h:Sh.zigguratkeep_Int a0 a1 b0 b1 (Rt X [.one .bool] K w) w.here):Ct Pg F.zigguratkeep_Int [.agg #[a0.v,.bool a1],.agg #[b0.v,.bool b1]] w X [.one .bool] K:=
 cod (Sh.zigguratkeep_Int a0 a1 b0 b1) 17 [(2,17),(3,19)] [(17,2),(19,2)] [(0,1,[(4,.one .bool)])] f31 h
def Sh.zigguratkeep_Cut (a:Sl) (n:Int) (R:Value→TW→Prop) (w:TW):Prop:=
bnd (if (n:Int)<(a.n:Int) then n else (a.n:Int)) fun n1=>
slc a 0 n1 1 fun s=>
R (s.v) w
theorem Ct.zigguratkeep_Cut {a:Sl} {n:Int} {w:TW} {X:Nat→Prop} {K:KT [.one .slice]} (h:Sh.zigguratkeep_Cut a n (Rt X [.one .slice] K w) w.here):Ct Pg F.zigguratkeep_Cut [a.v,.int .i64 n] w X [.one .slice] K:=
 cod (Sh.zigguratkeep_Cut a n) 11 [] [] [] f37 h
def Sh.zigguratkeep_CopyInt (a0:Sl) (a1:Bool) (R:Value→TW→Prop) (w:TW):Prop:=
nwv w fun w1=>
nwv w1 fun w2=>
cl Pg F.zigguratkeep_Copy [a0.v] w2.drew [.one .slice] fun (s:Sl) w3=>
nwv w3 fun w4=>
R (.agg #[s.v,.bool a1]) w4
theorem Ct.zigguratkeep_CopyInt {a0:Sl} {a1:Bool} {w:TW} {X:Nat→Prop} {K:KT [.agg [.slice,.bool]]} (h:Sh.zigguratkeep_CopyInt a0 a1 (Rt X [.agg [.slice,.bool]] K w) w.here):Ct Pg F.zigguratkeep_CopyInt [.agg #[a0.v,.bool a1]] w X [.agg [.slice,.bool]] K:=
 cod (Sh.zigguratkeep_CopyInt a0 a1) 9 [(1,9),(2,11)] [(9,2),(11,2)] [] f51 h
def Sh.zigguratkeep_CutInt (a0:Sl) (a1:Bool) (n:Int) (R:Value→TW→Prop) (w:TW):Prop:=
nwv w fun w1=>
nwv w1 fun w2=>
cl Pg F.zigguratkeep_Cut [a0.v,.int .i64 n] w2.drew [.one .slice] fun (s:Sl) w3=>
nwv w3 fun w4=>
R (.agg #[s.v,.bool a1]) w4
theorem Ct.zigguratkeep_CutInt {a0:Sl} {a1:Bool} {n:Int} {w:TW} {X:Nat→Prop} {K:KT [.agg [.slice,.bool]]} (h:Sh.zigguratkeep_CutInt a0 a1 n (Rt X [.agg [.slice,.bool]] K w) w.here):Ct Pg F.zigguratkeep_CutInt [.agg #[a0.v,.bool a1],.int .i64 n] w X [.agg [.slice,.bool]] K:=
 cod (Sh.zigguratkeep_CutInt a0 a1 n) 12 [(2,12),(4,14)] [(12,2),(14,2)] [] f75 h
def Sh.zigguratkeep_Copy (a:Sl) (R:Value→TW→Prop) (w:TW):Prop:=
apd w T.uint64 1 8 Sl.nil a fun s w1=>
R (s.v) w1
theorem Ct.zigguratkeep_Copy {a:Sl} {w:TW} {X:Nat→Prop} {K:KT [.one .slice]} (h:Sh.zigguratkeep_Copy a (Rt X [.one .slice] K w) w.here):Ct Pg F.zigguratkeep_Copy [a.v] w X [.one .slice] K:=
 cod (Sh.zigguratkeep_Copy a) 5 [] [] [] f94 h
end Go.Proofs.YtjhfalgmgagdhaaGreatDoor.Zg
end

section
set_option maxRecDepth 100000
namespace Go.Proofs.YtjhfalgmgagdhaaGreatDoor.Zg
open Go.Proofs.Tryz
def Sh.zigguratlaw29_ZmulWays (t:HL I11) (a:Sl) (b:Sl) (R:Value→TW→Prop) (w:TW):Prop:=
nwv w fun w1=>
cl Pg F.zigguratlaw29_cut [a.v,.int .i64 14,.int .i64 5] w1 [.one .slice,.one .slice] fun (s:Sl) (s1:Sl) w2=>
cl Pg F.zigguratlaw29_cut [b.v,.int .i64 14,.int .i64 5] w2 [.one .slice,.one .slice] fun (s2:Sl) (s3:Sl) w3=>
cl Pg F.zmul_New [.agg (encs I11 t).toArray] w3 [.one .ptr] fun (p:Option Addr) w4=>
cond (Option.isNone p) (
R (.bool false) w4) (
cl Pg F.zigguratkeep_CopyInts [s.v] w4 [.one .slice] fun (s4:Sl) w5=>
cl Pg F.zigguratkeep_CopyInts [s2.v] w5 [.one .slice] fun (s5:Sl) w6=>
cl Pg F.zigguratref28_Mul [s1.v,s3.v] w6 [.one .slice] fun (s6:Sl) w7=>
Jn [.bool] (fun J0=>
cl Pg F.zmul_Engine_Times [.pointer p,s4.v,s5.v] w7 [.one .slice] fun (s7:Sl) w8=>
cl Pg F.zigguratref28_Same [s6.v,s7.v] w8 [.one .bool] fun (ok:Bool) w9=>
cond (!ok) (
J0 true w9) (
cl Pg F.zmul_Engine_Kron [.pointer p,s4.v,s5.v] w9 [.one .slice] fun (s8:Sl) w10=>
cl Pg F.zigguratref28_Same [s6.v,s8.v] w10 [.one .bool] fun (ok1:Bool) w11=>
cond (!ok1) (
J0 true w11) (
cl Pg F.zmul_Engine_Many [.pointer p,s4.v,s5.v] w11 [.one .slice] fun (s9:Sl) w12=>
cl Pg F.zigguratref28_Same [s6.v,s9.v] w12 [.one .bool] fun (ok2:Bool) w13=>
cond (!ok2) (
J0 true w13) (
nck p fun a1=>
ldc (.ptr) w13 a1 fun (v:Option Addr)=>
cl Pg F.polyz_Engine_Hand [.pointer v,s4.v,s5.v] w13 [.one .slice] fun (s10:Sl) w14=>
cl Pg F.zigguratref28_Same [s6.v,s10.v] w14 [.one .bool] fun (ok3:Bool) w15=>
J0 (!ok3) w15)))) fun (x:Bool) w16=>
cond x (
R (.bool false) w16) (
bnd (if ((s3.n:Int):Int)<(s1.n:Int) then (s3.n:Int) else (s1.n:Int)) fun n=>
Jn [.int .i64] (fun J1=>
Lp [.int .i64,.int .i64] (fun (n1:Int) (k:Int) w17 C0=>
cond (decide ((k:Int)>0)) (
bnd (wi (n1+1)) fun n2=>
divK .i64 k 2 fun n3=>
C0 n2 n3 w17) (
J1 n1 w17)) 0 n w16) fun (n4:Int) w18=>
Jn [.int .i64] (fun J2=>
cond (decide ((n4:Int)>0)) (
cl Pg F.zigguratref28_Height [s1.v] w18 [.one (.int .i64)] fun (r:Int) w19=>
cl Pg F.zigguratref28_Height [s3.v] w19 [.one (.int .i64)] fun (r1:Int) w20=>
bnd (wi (r+r1)) fun n5=>
bnd (wi (n5+n4)) fun n6=>
J2 n6 w20) (
J2 0 w18)) fun (bound:Int) w21=>
Jn [.bool] (fun J3=>
cl Pg F.zmul_Engine_Bound [.pointer p,s4.v,s5.v] w21 [.one (.int .i64)] fun (r2:Int) w22=>
cond ((r2:Int) == bound) (
cl Pg F.zigguratref28_Height [s6.v] w22 [.one (.int .i64)] fun (r3:Int) w23=>
cond (decide ((r3:Int)≤bound)) (
cl Pg F.zigguratkeep_Ints [s4.v,s.v] w23 [.one .bool] fun (ok4:Bool) w24=>
cond ok4 (
cl Pg F.zigguratkeep_Ints [s5.v,s2.v] w24 [.one .bool] fun (ok5:Bool) w25=>
cond ok5 (
cl Pg F.zigguratlaw29_wakes [] w25 [.one .bool] fun (ok6:Bool) w26=>
J3 ok6 w26) (
J3 false w25)) (
J3 false w24)) (
J3 false w23)) (
J3 false w22)) fun (x1:Bool) w27=>
R (.bool x1) w27))
theorem Ct.zigguratlaw29_ZmulWays {t:HL I11} {a:Sl} {b:Sl} {w:TW} {X:Nat→Prop} {K:KT [.one .bool]} (h:Sh.zigguratlaw29_ZmulWays t a b (Rt X [.one .bool] K w) w.here):Ct Pg F.zigguratlaw29_ZmulWays [.agg (encs I11 t).toArray,a.v,b.v] w X [.one .bool] K:=
 cod (Sh.zigguratlaw29_ZmulWays t a b) 119 [(3,119)] [(119,11)] [(0,8,[(73,.one .bool)]),(2,0,[(13,.one (.int .i64))]),(3,12,[(13,.one (.int .i64)),(14,.one (.int .i64))]),(1,17,[(15,.one (.int .i64))]),(0,18,[(6,.one .bool)])] f4 h
def Sh.zigguratlaw29_ZmulTables (t:HL I11) (u:HL I11) (a:Sl) (b:Sl) (R:Value→TW→Prop) (w:TW):Prop:=
nwv w fun w1=>
nwv w1 fun w2=>
cl Pg F.zigguratkeep_CutInts [a.v,.int .i64 40,.int .i64 4] w2 [.one .slice] fun (s:Sl) w3=>
cl Pg F.zigguratkeep_CutInts [b.v,.int .i64 40,.int .i64 4] w3 [.one .slice] fun (s1:Sl) w4=>
cl Pg F.zmul_New [.agg (encs I11 t).toArray] w4.drew [.one .ptr] fun (p:Option Addr) w5=>
cl Pg F.zmul_New [.agg (encs I11 u).toArray] w5 [.one .ptr] fun (p1:Option Addr) w6=>
Jn [.bool] (fun J0=>
cond (Option.isNone p) (
J0 true w6) (
J0 (Option.isNone p1) w6)) fun (x:Bool) w7=>
cond x (
R (.bool false) w7) (
cl Pg F.zmul_Engine_Times [.pointer p,s.v,s1.v] w7 [.one .slice] fun (s2:Sl) w8=>
Jn [.bool] (fun J1=>
cl Pg F.zmul_Engine_Times [.pointer p1,s1.v,s.v] w8 [.one .slice] fun (s3:Sl) w9=>
cl Pg F.zigguratkeep_Ints [s2.v,s3.v] w9 [.one .bool] fun (ok:Bool) w10=>
cond (!ok) (
J1 true w10) (
cl Pg F.zmul_Engine_Many [.pointer p1,s.v,s1.v] w10 [.one .slice] fun (s4:Sl) w11=>
cl Pg F.zigguratkeep_Ints [s2.v,s4.v] w11 [.one .bool] fun (ok1:Bool) w12=>
cond (!ok1) (
J1 true w12) (
cl Pg F.zmul_Engine_Kron [.pointer p,s1.v,s.v] w12 [.one .slice] fun (s5:Sl) w13=>
cl Pg F.zigguratkeep_Ints [s2.v,s5.v] w13 [.one .bool] fun (ok2:Bool) w14=>
J1 (!ok2) w14))) fun (x1:Bool) w15=>
cond x1 (
R (.bool false) w15) (
cl Pg F.num_Of [.int .i64 (-6)] w15 [.agg [.slice,.bool]] fun (r:Sl) (r1:Bool) w16=>
cl Pg F.num_Of [.int .i64 7] w16 [.agg [.slice,.bool]] fun (r2:Sl) (r3:Bool) w17=>
nwv w17 fun w18=>
nwv w18 fun w19=>
nwv w19 fun w20=>
nwv w20 fun w21=>
Jn [.bool] (fun J2=>
nck p fun a1=>
ldc (.ptr) w21.drew a1 fun (v:Option Addr)=>
nck v fun a2=>
ldc (.ptr) w21.drew a2 fun (v1:Option Addr)=>
nck v1 fun a3=>
ldc (.ptr) w21.drew a3 fun (v2:Option Addr)=>
nck v2 fun a4=>
ldc (.ptr) w21.drew a4 fun (v3:Option Addr)=>
nck v3 fun a5=>
ldc (.ptr) w21.drew a5 fun (v4:Option Addr)=>
nck v4 fun a6=>
ldc (.ptr) w21.drew a6 fun (v5:Option Addr)=>
cl Pg F.num_Engine_Times [.pointer v5,.agg #[r.v,.bool r1],.agg #[r2.v,.bool r3]] w21.drew [.agg [.slice,.bool]] fun (r4:Sl) (r5:Bool) w22=>
hld w22 [(a5,.pointer v4),(a4,.pointer v3),(a3,.pointer v2),(a2,.pointer v1),(a1,.pointer v)] <|
cl Pg F.num_Of [.int .i64 (-42)] w22 [.agg [.slice,.bool]] fun (r6:Sl) (r7:Bool) w23=>
hld w23 [(a5,.pointer v4),(a4,.pointer v3),(a3,.pointer v2),(a2,.pointer v1),(a1,.pointer v)] <|
cl Pg F.zigguratkeep_Int [.agg #[r4.v,.bool r5],.agg #[r6.v,.bool r7]] w23 [.one .bool] fun (ok3:Bool) w24=>
hld w24 [(a5,.pointer v4),(a4,.pointer v3),(a3,.pointer v2),(a2,.pointer v1),(a1,.pointer v)] <|
cond ok3 (
cl Pg F.zigguratlaw29_wakes [] w24 [.one .bool] fun (ok4:Bool) w25=>
hld w25 [(a5,.pointer v4),(a4,.pointer v3),(a3,.pointer v2),(a2,.pointer v1),(a1,.pointer v)] <|
J2 ok4 w25) (
J2 false w24)) fun (x2:Bool) w26=>
R (.bool x2) w26))
theorem Ct.zigguratlaw29_ZmulTables {t:HL I11} {u:HL I11} {a:Sl} {b:Sl} {w:TW} {X:Nat→Prop} {K:KT [.one .bool]} (h:Sh.zigguratlaw29_ZmulTables t u a b (Rt X [.one .bool] K w) w.here):Ct Pg F.zigguratlaw29_ZmulTables [.agg (encs I11 t).toArray,.agg (encs I11 u).toArray,a.v,b.v] w X [.one .bool] K:=
 cod (Sh.zigguratlaw29_ZmulTables t u a b) 86 [(4,86),(5,97),(12,108),(13,110)] [(86,11),(97,11),(108,2),(110,2)] [(0,3,[(27,.one .bool)]),(0,6,[(56,.one .bool)]),(0,9,[(8,.one .bool)])] f5 h
def Sh.zigguratlaw29_ZmulAlls (t:HL I11) (a:Sl) (b:Sl) (c:Sl) (n:Int) (R:Value→TW→Prop) (w:TW):Prop:=
nwv w fun w1=>
cl Pg F.zigguratlaw29_cut [a.v,.int .i64 5,.int .i64 2] w1 [.one .slice,.one .slice] fun (s:Sl) (s1:Sl) w2=>
cl Pg F.zigguratlaw29_cut [b.v,.int .i64 5,.int .i64 2] w2 [.one .slice,.one .slice] fun (s2:Sl) (s3:Sl) w3=>
cl Pg F.zigguratlaw29_cut [c.v,.int .i64 5,.int .i64 2] w3 [.one .slice,.one .slice] fun (s4:Sl) (s5:Sl) w4=>
cl Pg F.zmul_New [.agg (encs I11 t).toArray] w4 [.one .ptr] fun (p:Option Addr) w5=>
cond (Option.isNone p) (
R (.bool false) w5) (
Jn [.int .i64] (fun J0=>
cond (decide ((n:Int)>8)) (
cl Pg F.zigguratkeep_Within [.int .i64 n,.int .i64 8] w5 [.one (.int .i64)] fun (r:Int) w6=>
J0 r w6) (
J0 n w5)) fun (n1:Int) w7=>
Jn [.bool] (fun J1=>
cl Pg F.zigguratref28_Mul [s1.v,s3.v] w7 [.one .slice] fun (s6:Sl) w8=>
cl Pg F.zigguratref28_Mul [s6.v,s5.v] w8 [.one .slice] fun (s7:Sl) w9=>
nwb w9 [s.v,s2.v,s4.v] T.s_api_Int fun b1 w10=>
cl Pg F.zmul_Engine_All [.pointer p,.slice (some ⟨b1,0,none⟩) 3 3] w10 [.one .slice] fun (s8:Sl) w11=>
cl Pg F.zigguratref28_Same [s7.v,s8.v] w11 [.one .bool] fun (ok:Bool) w12=>
cond ok (
bnd (if (0:Int)>n1 then 0 else n1) fun n2=>
cl Pg F.zigguratref28_Pow [s1.v,.int .i64 n2] w12 [.one .slice] fun (s9:Sl) w13=>
cl Pg F.zmul_Engine_Pow [.pointer p,s.v,.int .i64 n1] w13 [.one .slice] fun (s10:Sl) w14=>
cl Pg F.zigguratref28_Same [s9.v,s10.v] w14 [.one .bool] fun (ok1:Bool) w15=>
cond ok1 (
cl Pg F.zigguratref28_Pow [s3.v,.int .i64 0] w15 [.one .slice] fun (s11:Sl) w16=>
cl Pg F.zmul_Engine_All [.pointer p,.slice none 0 0] w16 [.one .slice] fun (s12:Sl) w17=>
cl Pg F.zigguratref28_Same [s11.v,s12.v] w17 [.one .bool] fun (ok2:Bool) w18=>
cond ok2 (
cl Pg F.zigguratlaw29_wakes [] w18 [.one .bool] fun (ok3:Bool) w19=>
J1 ok3 w19) (
J1 false w18)) (
J1 false w15)) (
J1 false w12)) fun (x:Bool) w20=>
R (.bool x) w20)
theorem Ct.zigguratlaw29_ZmulAlls {t:HL I11} {a:Sl} {b:Sl} {c:Sl} {n:Int} {w:TW} {X:Nat→Prop} {K:KT [.one .bool]} (h:Sh.zigguratlaw29_ZmulAlls t a b c n (Rt X [.one .bool] K w) w.here):Ct Pg F.zigguratlaw29_ZmulAlls [.agg (encs I11 t).toArray,a.v,b.v,c.v,.int .i64 n] w X [.one .bool] K:=
 cod (Sh.zigguratlaw29_ZmulAlls t a b c n) 71 [(5,71)] [(71,11)] [(1,8,[(4,.one (.int .i64))]),(0,9,[(10,.one .bool)])] f6 h
def Sh.zigguratlaw29_cut (a:Sl) (n:Int) (k:Int) (R:Value→TW→Prop) (w:TW):Prop:=
cl Pg F.zigguratkeep_CutInts [a.v,.int .i64 n,.int .i64 k] w [.one .slice] fun (s:Sl) w1=>
cl Pg F.zigguratref28_From [s.v] w1 [.one .slice] fun (s1:Sl) w2=>
R (.tuple #[s.v,s1.v]) w2
theorem Ct.zigguratlaw29_cut {a:Sl} {n:Int} {k:Int} {w:TW} {X:Nat→Prop} {K:KT [.one .slice,.one .slice]} (h:Sh.zigguratlaw29_cut a n k (Rt X [.one .slice,.one .slice] K w) w.here):Ct Pg F.zigguratlaw29_cut [a.v,.int .i64 n,.int .i64 k] w X [.one .slice,.one .slice] K:=
 cod (Sh.zigguratlaw29_cut a n k) 15 [] [] [] f16 h
def Sh.zigguratlaw29_wakes (R:Value→TW→Prop) (w:TW):Prop:=
cl Pg F.zmul_New [.agg #[.int .i64 0,.int .i64 0,.int .i64 0,.int .i64 0,.int .i64 0,.int .i64 0,.int .i64 0,.int .i64 0,.int .i64 0,.int .i64 0,.int .i64 0]] w [.one .ptr] fun (p:Option Addr) w1=>
cond (Option.isNone p) (
R (.bool false) w1) (
cl Pg F.num_Of [.int .i64 15] w1 [.agg [.slice,.bool]] fun (r:Sl) (r1:Bool) w2=>
cl Pg F.zmul_Engine_Unpack [.pointer p,.agg #[r.v,.bool r1],.int .i64 4] w2 [.one .slice,.one (.int .i64)] fun (s:Sl) (r2:Int) w3=>
Jn [.bool] (fun J0=>
cond ((r2:Int) == 0) (
cl Pg F.zigguratref17_Small [.int .i64 (-1)] w3 [.agg [.slice,.bool]] fun (r3:Sl) (r4:Bool) w4=>
cl Pg F.zigguratref17_Small [.int .i64 1] w4 [.agg [.slice,.bool]] fun (r5:Sl) (r6:Bool) w5=>
nwb w5 [r3.v,.bool r4,r5.v,.bool r6] T.zigguratref17_I fun b w6=>
cl Pg F.zigguratref28_Same [.slice (some ⟨b,0,none⟩) 2 2,s.v] w6 [.one .bool] fun (ok:Bool) w7=>
J0 ok w7) (
J0 false w3)) fun (x:Bool) w8=>
R (.bool x) w8)
theorem Ct.zigguratlaw29_wakes {w:TW} {X:Nat→Prop} {K:KT [.one .bool]} (h:Sh.zigguratlaw29_wakes (Rt X [.one .bool] K w) w.here):Ct Pg F.zigguratlaw29_wakes [] w X [.one .bool] K:=
 cod Sh.zigguratlaw29_wakes 23 [] [] [(0,5,[(0,.one .bool)])] f28 h
end Go.Proofs.YtjhfalgmgagdhaaGreatDoor.Zg
end
