/- A part of the proofs of this seat's laws: words, lemmas or contracts of its functions. -/
import Derived.Test.YtjhfalgmgagdhaaGreatDoorGC
set_option linter.unusedVariables false
set_option linter.unusedSimpArgs false
set_option linter.unnecessarySimpa false
section
set_option maxRecDepth 100000
namespace Go.Proofs.YtjhfalgmgagdhaaGreatDoor.Zg
open Go.Proofs.Tryz
def Sh.pmul_New (t:HL I11) (p:Int) (R:Value→TW→Prop) (w:TW):Prop:=
nwv w fun w1=>
cl Pg F.polyp_New [.int .u64 p] w1 [.one .ptr,.one (.int .i64)] fun (p1:Option Addr) (r:Int) w2=>
cond ((r:Int) != 0) (
R (.tuple #[.pointer none,.int .i64 r]) w2) (
cl Pg F.modn_New [.agg (encs I11 t).toArray] w2 [.one .ptr] fun (p2:Option Addr) w3=>
nwb w3 [.pointer p1,.pointer p2] T.pmul_Engine fun b w4=>
R (.tuple #[.pointer (some ⟨b,0,none⟩),.int .i64 0]) w4)
theorem Ct.pmul_New {t:HL I11} {p:Int} {w:TW} {X:Nat→Prop} {K:KT [.one .ptr,.one (.int .i64)]} (h:Sh.pmul_New t p (Rt X [.one .ptr,.one (.int .i64)] K w) w.here):Ct Pg F.pmul_New [.agg (encs I11 t).toArray,.int .u64 p] w X [.one .ptr,.one (.int .i64)] K:=
 cod (Sh.pmul_New t p) 21 [(2,21)] [(21,11)] [] f108 h
def Sh.pmul_Engine_Mul (e0:Option Addr) (a:Sl) (b:Sl) (R:Value→TW→Prop) (w:TW):Prop:=
nck e0 fun a1=>
ldc (.ptr) w.drew a1 fun (v:Option Addr)=>
nck e0 fun a2=>
ldc (.ptr) w.drew a2 fun (v1:Option Addr)=>
cl Pg F.polyp_Ring_Norm [.pointer v,a.v] w.drew [.one .slice] fun (s:Sl) w1=>
hld w1 [(a2,.pointer v1)] <|
cl Pg F.polyp_Ring_Norm [.pointer v1,b.v] w1 [.one .slice] fun (s1:Sl) w2=>
nck e0 fun a3=>
ldc (.ptr) w2 (a3.add 1) fun (v2:Option Addr)=>
nck v2 fun a4=>
ldc (.ptr) w2 a4 fun (v3:Option Addr)=>
nck v3 fun a5=>
ldc (.ptr) w2 a5 fun (v4:Option Addr)=>
nck v4 fun a6=>
ldc (.ptr) w2 a6 fun (v5:Option Addr)=>
nck v5 fun a7=>
ldc (.ptr) w2 a7 fun (v6:Option Addr)=>
nck v6 fun a8=>
ldc (.ptr) w2 a8 fun (v7:Option Addr)=>
nck v7 fun a9=>
ldc (.ptr) w2 a9 fun (v8:Option Addr)=>
nck v8 fun a10=>
ldc (.ptr) w2 a10 fun (v9:Option Addr)=>
nck v9 fun a11=>
ldc (.ptr) w2 a11 fun (v10:Option Addr)=>
nck v10 fun a12=>
ldc (.ptr) w2 a12 fun (v11:Option Addr)=>
nck v11 fun a13=>
ldc (.ptr) w2 a13 fun (v12:Option Addr)=>
nck v12 fun a14=>
ldc (.ptr) w2 a14 fun (v13:Option Addr)=>
nck v13 fun a15=>
ldc (.ptr) w2 a15 fun (v14:Option Addr)=>
nck v14 fun a16=>
ldc (.ptr) w2 a16 fun (v15:Option Addr)=>
nck v15 fun a17=>
ldc (.ptr) w2 a17 fun (v16:Option Addr)=>
nck v16 fun a18=>
ldc (.int .i64) w2 ((a18.add 3).add 0) fun (_:Int)=>
ldc (.int .i64) w2 ((a18.add 3).add 1) fun (_:Int)=>
ldc (.int .i64) w2 ((a18.add 3).add 2) fun (v19:Int)=>
ldc (.int .i64) w2 ((a18.add 3).add 3) fun (_:Int)=>
ldc (.int .i64) w2 ((a18.add 3).add 4) fun (_:Int)=>
ldc (.int .i64) w2 ((a18.add 3).add 5) fun (_:Int)=>
ldc (.int .i64) w2 ((a18.add 3).add 6) fun (_:Int)=>
ldc (.int .i64) w2 ((a18.add 3).add 7) fun (v24:Int)=>
ldc (.int .i64) w2 ((a18.add 3).add 8) fun (v25:Int)=>
ldc (.int .i64) w2 ((a18.add 3).add 9) fun (_:Int)=>
ldc (.int .i64) w2 ((a18.add 3).add 10) fun (_:Int)=>
nwv w2 fun w3=>
nwv w3 fun w4=>
bnd (if ((s1.n:Int):Int)<(s.n:Int) then (s1.n:Int) else (s.n:Int)) fun n=>
cond (decide ((n:Int)<v24)) (
nck e0 fun a19=>
ldc (.ptr) w4 a19 fun (v28:Option Addr)=>
cl Pg F.polyp_Ring_Times [.pointer v28,s.v,s1.v] w4 [.one .slice] fun (s2:Sl) w5=>
R (s2.v) w5) (
cond (decide ((n:Int)<v25)) (
cl Pg F.pmul_Engine_kara [.pointer e0,s.v,s1.v] w4 [.one .slice] fun (s3:Sl) w6=>
R (s3.v) w6) (
bnd (wi ((s.n:Int)+(s1.n:Int))) fun n1=>
cond (decide ((n1:Int)≥v19)) (
cl Pg F.pmul_Engine_Ntt [.pointer e0,s.v,s1.v] w4 [.one .slice] fun (s4:Sl) w7=>
R (s4.v) w7) (
cl Pg F.pmul_Engine_Kron [.pointer e0,s.v,s1.v] w4 [.one .slice] fun (s5:Sl) w8=>
R (s5.v) w8)))
theorem Ct.pmul_Engine_Mul {e0:Option Addr} {a:Sl} {b:Sl} {w:TW} {X:Nat→Prop} {K:KT [.one .slice]} (h:Sh.pmul_Engine_Mul e0 a b (Rt X [.one .slice] K w) w.here):Ct Pg F.pmul_Engine_Mul [.pointer e0,a.v,b.v] w X [.one .slice] K:=
 cod (Sh.pmul_Engine_Mul e0 a b) 113 [(7,113)] [(113,11)] [] f109 h
def Sh.pmul_Engine_kara (e0:Option Addr) (a:Sl) (b:Sl) (R:Value→TW→Prop) (w:TW):Prop:=
Jn [.slice,.slice] (fun J0=>
cond (decide (((a.n:Int):Int)<(b.n:Int))) (
J0 b a w) (
J0 a b w)) fun (a1:Sl) (b1:Sl) w1=>
nck e0 fun a2=>
ldc (.ptr) w1 (a2.add 1) fun (v:Option Addr)=>
nck v fun a3=>
ldc (.ptr) w1 a3 fun (v1:Option Addr)=>
nck v1 fun a4=>
ldc (.ptr) w1 a4 fun (v2:Option Addr)=>
nck v2 fun a5=>
ldc (.ptr) w1 a5 fun (v3:Option Addr)=>
nck v3 fun a6=>
ldc (.ptr) w1 a6 fun (v4:Option Addr)=>
nck v4 fun a7=>
ldc (.ptr) w1 a7 fun (v5:Option Addr)=>
nck v5 fun a8=>
ldc (.ptr) w1 a8 fun (v6:Option Addr)=>
nck v6 fun a9=>
ldc (.ptr) w1 a9 fun (v7:Option Addr)=>
nck v7 fun a10=>
ldc (.ptr) w1 a10 fun (v8:Option Addr)=>
nck v8 fun a11=>
ldc (.ptr) w1 a11 fun (v9:Option Addr)=>
nck v9 fun a12=>
ldc (.ptr) w1 a12 fun (v10:Option Addr)=>
nck v10 fun a13=>
ldc (.ptr) w1 a13 fun (v11:Option Addr)=>
nck v11 fun a14=>
ldc (.ptr) w1 a14 fun (v12:Option Addr)=>
nck v12 fun a15=>
ldc (.ptr) w1 a15 fun (v13:Option Addr)=>
nck v13 fun a16=>
ldc (.ptr) w1 a16 fun (v14:Option Addr)=>
nck v14 fun a17=>
ldc (.int .i64) w1 ((a17.add 3).add 7) fun (v15:Int)=>
cond (decide (((b1.n:Int):Int)<v15)) (
nck e0 fun a18=>
ldc (.ptr) w1 a18 fun (v16:Option Addr)=>
cl Pg F.polyp_Ring_Times [.pointer v16,a1.v,b1.v] w1 [.one .slice] fun (s:Sl) w2=>
R (s.v) w2) (
bnd (wi ((a1.n:Int)+1)) fun n=>
divK .i64 n 2 fun n1=>
nck e0 fun a19=>
ldc (.ptr) w1.drew a19 fun (v17:Option Addr)=>
slc a1 0 n1 1 fun s1=>
slc a1 n1 (a1.n:Nat) 1 fun s2=>
cl Pg F.polyp_Ring_Norm [.pointer v17,s1.v] w1.drew [.one .slice] fun (s3:Sl) w3=>
cond (decide (((b1.n:Int):Int)≤n1)) (
nck e0 fun a20=>
ldc (.ptr) w3.drew a20 fun (v18:Option Addr)=>
cl Pg F.pmul_Engine_kara [.pointer e0,s3.v,b1.v] w3.drew [.one .slice] fun (s4:Sl) w4=>
hld w4 [(a20,.pointer v18)] <|
cl Pg F.pmul_Engine_kara [.pointer e0,s2.v,b1.v] w4 [.one .slice] fun (s5:Sl) w5=>
hld w5 [(a20,.pointer v18)] <|
cl Pg F.pmul_Engine_moved [.pointer e0,s5.v,.int .i64 n1] w5 [.one .slice] fun (s6:Sl) w6=>
hld w6 [(a20,.pointer v18)] <|
nwb w6 [s4.v,s6.v] T.s_uint64 fun b2 w7=>
hld w7 [(a20,.pointer v18)] <|
cl Pg F.polyp_Ring_Plus [.pointer v18,.slice (some ⟨b2,0,none⟩) 2 2] w7 [.one .slice] fun (s7:Sl) w8=>
R (s7.v) w8) (
nck e0 fun a21=>
ldc (.ptr) w3.drew a21 fun (v19:Option Addr)=>
slc b1 0 n1 1 fun s8=>
slc b1 n1 (b1.n:Nat) 1 fun s9=>
cl Pg F.polyp_Ring_Norm [.pointer v19,s8.v] w3.drew [.one .slice] fun (s10:Sl) w9=>
cl Pg F.pmul_Engine_kara [.pointer e0,s3.v,s10.v] w9 [.one .slice] fun (s11:Sl) w10=>
cl Pg F.pmul_Engine_kara [.pointer e0,s2.v,s9.v] w10 [.one .slice] fun (s12:Sl) w11=>
Jn [.slice] (fun J1=>
nck e0 fun a22=>
ldc (.ptr) w11.drew a22 fun (v20:Option Addr)=>
nck e0 fun a23=>
ldc (.ptr) w11.drew a23 fun (v21:Option Addr)=>
(nwb w11.drew [s3.v,s2.v] T.s_uint64 fun b3 w12=>
hld w12 [(a23,.pointer v21),(a22,.pointer v20)] <|
(cl Pg F.polyp_Ring_Plus [.pointer v20,.slice (some ⟨b3,0,none⟩) 2 2] w12 [.one .slice] fun (s13:Sl) w13=>
hld w13 [(a23,.pointer v21)] <|
nwb w13 [s10.v,s9.v] T.s_uint64 fun b4 w14=>
hld w14 [(a23,.pointer v21)] <|
cl Pg F.polyp_Ring_Plus [.pointer v21,.slice (some ⟨b4,0,none⟩) 2 2] w14 [.one .slice] fun (s14:Sl) w15=>
cl Pg F.pmul_Engine_kara [.pointer e0,s13.v,s14.v] w15 [.one .slice] fun (s15:Sl) w16=>
J1 s15 w16)∧
(nwb w12 [s10.v,s9.v] T.s_uint64 fun b5 w17=>
hld w17 [(a23,.pointer v21),(a22,.pointer v20)] <|
cl Pg F.polyp_Ring_Plus [.pointer v20,.slice (some ⟨b3,0,none⟩) 2 2] w17 [.one .slice] fun (s16:Sl) w18=>
hld w18 [(a23,.pointer v21)] <|
cl Pg F.polyp_Ring_Plus [.pointer v21,.slice (some ⟨b5,0,none⟩) 2 2] w18 [.one .slice] fun (s17:Sl) w19=>
cl Pg F.pmul_Engine_kara [.pointer e0,s16.v,s17.v] w19 [.one .slice] fun (s18:Sl) w20=>
J1 s18 w20))∧
(nwb w11.drew [s10.v,s9.v] T.s_uint64 fun b6 w21=>
hld w21 [(a23,.pointer v21),(a22,.pointer v20)] <|
nwb w21 [s3.v,s2.v] T.s_uint64 fun b7 w22=>
hld w22 [(a23,.pointer v21),(a22,.pointer v20)] <|
cl Pg F.polyp_Ring_Plus [.pointer v20,.slice (some ⟨b7,0,none⟩) 2 2] w22 [.one .slice] fun (s19:Sl) w23=>
hld w23 [(a23,.pointer v21)] <|
cl Pg F.polyp_Ring_Plus [.pointer v21,.slice (some ⟨b6,0,none⟩) 2 2] w23 [.one .slice] fun (s20:Sl) w24=>
cl Pg F.pmul_Engine_kara [.pointer e0,s19.v,s20.v] w24 [.one .slice] fun (s21:Sl) w25=>
J1 s21 w25)) fun (both:Sl) w26=>
nck e0 fun a24=>
ldc (.ptr) w26.drew a24 fun (v22:Option Addr)=>
nck e0 fun a25=>
ldc (.ptr) w26.drew a25 fun (v23:Option Addr)=>
nwb w26.drew [s11.v,s12.v] T.s_uint64 fun b8 w27=>
hld w27 [(a25,.pointer v23),(a24,.pointer v22)] <|
cl Pg F.polyp_Ring_Plus [.pointer v23,.slice (some ⟨b8,0,none⟩) 2 2] w27 [.one .slice] fun (s22:Sl) w28=>
hld w28 [(a24,.pointer v22)] <|
cl Pg F.polyp_Ring_Minus [.pointer v22,both.v,s22.v] w28 [.one .slice] fun (s23:Sl) w29=>
nck e0 fun a26=>
ldc (.ptr) w29.drew a26 fun (v24:Option Addr)=>
bnd (wi (2*n1)) fun n2=>
cl Pg F.pmul_Engine_moved [.pointer e0,s23.v,.int .i64 n1] w29.drew [.one .slice] fun (s24:Sl) w30=>
hld w30 [(a26,.pointer v24)] <|
cl Pg F.pmul_Engine_moved [.pointer e0,s12.v,.int .i64 n2] w30 [.one .slice] fun (s25:Sl) w31=>
hld w31 [(a26,.pointer v24)] <|
nwb w31 [s11.v,s24.v,s25.v] T.s_uint64 fun b9 w32=>
hld w32 [(a26,.pointer v24)] <|
cl Pg F.polyp_Ring_Plus [.pointer v24,.slice (some ⟨b9,0,none⟩) 3 3] w32 [.one .slice] fun (s26:Sl) w33=>
R (s26.v) w33))
theorem Ct.pmul_Engine_kara {e0:Option Addr} {a:Sl} {b:Sl} {w:TW} {X:Nat→Prop} {K:KT [.one .slice]} (h:Sh.pmul_Engine_kara e0 a b (Rt X [.one .slice] K w) w.here):Ct Pg F.pmul_Engine_kara [.pointer e0,a.v,b.v] w X [.one .slice] K:=
 cod (Sh.pmul_Engine_kara e0 a b) 186 [] [] [(1,2,[(1,.one .slice),(2,.one .slice)]),(0,11,[(14,.one .slice)])] f139 h
def Sh.pmul_Engine_Ntt (e0:Option Addr) (a:Sl) (b:Sl) (R:Value→TW→Prop) (w:TW):Prop:=
nck e0 fun a1=>
ldc (.ptr) w.drew a1 fun (v:Option Addr)=>
nck e0 fun a2=>
ldc (.ptr) w.drew a2 fun (v1:Option Addr)=>
cl Pg F.polyp_Ring_Norm [.pointer v,a.v] w.drew [.one .slice] fun (s:Sl) w1=>
hld w1 [(a2,.pointer v1)] <|
cl Pg F.polyp_Ring_Norm [.pointer v1,b.v] w1 [.one .slice] fun (s1:Sl) w2=>
Jn [.bool] (fun J0=>
cond (((s.n:Int):Int) == 0) (
J0 true w2) (
J0 (((s1.n:Int):Int) == 0) w2)) fun (x:Bool) w3=>
cond x (
R (.slice none 0 0) w3) (
nck e0 fun a3=>
ldc (.ptr) w3 (a3.add 1) fun (v2:Option Addr)=>
nck v2 fun a4=>
ldc (.ptr) w3 a4 fun (v3:Option Addr)=>
nck v3 fun a5=>
ldc (.ptr) w3 a5 fun (v4:Option Addr)=>
nck v4 fun a6=>
ldc (.ptr) w3 a6 fun (v5:Option Addr)=>
nck v5 fun a7=>
ldc (.ptr) w3 a7 fun (v6:Option Addr)=>
nck v6 fun a8=>
ldc (.ptr) w3 a8 fun (v7:Option Addr)=>
nck v7 fun a9=>
ldc (.ptr) w3 a9 fun (v8:Option Addr)=>
nck v8 fun a10=>
ldc (.ptr) w3 a10 fun (v9:Option Addr)=>
nck v9 fun a11=>
ldc (.ptr) w3 a11 fun (v10:Option Addr)=>
nck v10 fun a12=>
ldc (.ptr) w3 a12 fun (v11:Option Addr)=>
nck v11 fun a13=>
ldc (.ptr) w3 a13 fun (v12:Option Addr)=>
nck v12 fun a14=>
ldc (.ptr) w3 a14 fun (v13:Option Addr)=>
nck v13 fun a15=>
ldc (.ptr) w3 a15 fun (v14:Option Addr)=>
nck v14 fun a16=>
ldc (.ptr) w3 a16 fun (v15:Option Addr)=>
nck v15 fun a17=>
ldc (.ptr) w3 a17 fun (v16:Option Addr)=>
nck v16 fun a18=>
cl Pg F.conv_Words [.pointer (some a18),s.v,s1.v] w3 [.one .slice,.one .bool] fun (s2:Sl) (ok:Bool) w4=>
cond (!ok) (
cl Pg F.pmul_Engine_kara [.pointer e0,s.v,s1.v] w4 [.one .slice] fun (s3:Sl) w5=>
R (s3.v) w5) (
mks w4 (s2.n:Int) (s2.n:Int) T.uint64 8 [.int .u64 0] fun s4 w6=>
Jn [] (fun J1=>
Lp [.int .i64] (fun (x1:Int) w7 C0=>
cond (decide ((x1:Int)<(s2.n:Int))) (
ixa s2 x1 3 fun a19=>
ldc (.int .u64) w7 (a19.add 0) fun (v17:Int)=>
ldc (.int .u64) w7 (a19.add 1) fun (v18:Int)=>
ldc (.int .u64) w7 (a19.add 2) fun (v19:Int)=>
nwv w7 fun w8=>
nwv w8 fun w9=>
cl Pg F.pmul_Engine_residue [.pointer e0,.agg #[.int .u64 v17,.int .u64 v18,.int .u64 v19]] w9 [.one (.int .u64)] fun (r:Int) w10=>
ixa s4 x1 1 fun a20=>
stc w10 a20 (.int .u64 r) fun w11=>
bnd (wi (x1+1)) fun n=>
C0 n w11) (
J1 w7)) 0 w6) fun  w12=>
nck e0 fun a21=>
ldc (.ptr) w12 a21 fun (v20:Option Addr)=>
cl Pg F.polyp_Ring_Norm [.pointer v20,s4.v] w12 [.one .slice] fun (s5:Sl) w13=>
R (s5.v) w13))
theorem Ct.pmul_Engine_Ntt {e0:Option Addr} {a:Sl} {b:Sl} {w:TW} {X:Nat→Prop} {K:KT [.one .slice]} (h:Sh.pmul_Engine_Ntt e0 a b (Rt X [.one .slice] K w) w.here):Ct Pg F.pmul_Engine_Ntt [.pointer e0,a.v,b.v] w X [.one .slice] K:=
 cod (Sh.pmul_Engine_Ntt e0 a b) 115 [(11,115)] [(115,3)] [(0,2,[(31,.one .bool)]),(2,0,[]),(3,9,[(97,.one (.int .i64))])] f140 h
def Sh.pmul_Engine_Kron (e0:Option Addr) (a:Sl) (b:Sl) (R:Value→TW→Prop) (w:TW):Prop:=
nck e0 fun a1=>
ldc (.ptr) w.drew a1 fun (v:Option Addr)=>
nck e0 fun a2=>
ldc (.ptr) w.drew a2 fun (v1:Option Addr)=>
cl Pg F.polyp_Ring_Norm [.pointer v,a.v] w.drew [.one .slice] fun (s:Sl) w1=>
hld w1 [(a2,.pointer v1)] <|
cl Pg F.polyp_Ring_Norm [.pointer v1,b.v] w1 [.one .slice] fun (s1:Sl) w2=>
Jn [.bool] (fun J0=>
cond (((s.n:Int):Int) == 0) (
J0 true w2) (
J0 (((s1.n:Int):Int) == 0) w2)) fun (x:Bool) w3=>
cond x (
R (.slice none 0 0) w3) (
nck e0 fun a3=>
ldc (.ptr) w3 a3 fun (v2:Option Addr)=>
nck v2 fun a4=>
ldc (.ptr) w3 a4 fun (v3:Option Addr)=>
cl Pg F.modw_Mod_P [.pointer v3] w3 [.one (.int .u64)] fun (r:Int) w4=>
bnd (wu (r-1)) fun n=>
cl Pg F.bits_Len64 [.int .u64 n] w4 [.one (.int .i64)] fun (r1:Int) w5=>
bnd (wi (2*r1)) fun n1=>
bnd (if ((s1.n:Int):Int)<(s.n:Int) then (s1.n:Int) else (s.n:Int)) fun n2=>
bnd (wu (n2)) fun n3=>
cl Pg F.bits_Len [.int .u64 n3] w5 [.one (.int .i64)] fun (r2:Int) w6=>
bnd (wi (n1+r2)) fun n4=>
bnd (wi (n4+63)) fun n5=>
divK .i64 n5 64 fun n6=>
nck e0 fun a5=>
ldc (.ptr) w6.drew (a5.add 1) fun (v4:Option Addr)=>
nck v4 fun a6=>
ldc (.ptr) w6.drew a6 fun (v5:Option Addr)=>
nck v5 fun a7=>
ldc (.ptr) w6.drew a7 fun (v6:Option Addr)=>
nck v6 fun a8=>
ldc (.ptr) w6.drew a8 fun (v7:Option Addr)=>
nck v7 fun a9=>
ldc (.ptr) w6.drew a9 fun (v8:Option Addr)=>
nck v8 fun a10=>
ldc (.ptr) w6.drew a10 fun (v9:Option Addr)=>
nck v9 fun a11=>
ldc (.ptr) w6.drew a11 fun (v10:Option Addr)=>
nck v10 fun a12=>
ldc (.ptr) w6.drew a12 fun (v11:Option Addr)=>
nck v11 fun a13=>
ldc (.ptr) w6.drew a13 fun (v12:Option Addr)=>
nck v12 fun a14=>
ldc (.ptr) w6.drew a14 fun (v13:Option Addr)=>
nck v13 fun a15=>
ldc (.ptr) w6.drew a15 fun (v14:Option Addr)=>
cl Pg F.pmul_packed [s.v,.int .i64 n6] w6.drew [.one .slice] fun (s2:Sl) w7=>
hld w7 [(a15,.pointer v14),(a14,.pointer v13),(a13,.pointer v12),(a12,.pointer v11),(a11,.pointer v10),(a10,.pointer v9),(a9,.pointer v8),(a8,.pointer v7),(a7,.pointer v6),(a6,.pointer v5),((a5.add 1),.pointer v4)] <|
cl Pg F.pmul_packed [s1.v,.int .i64 n6] w7 [.one .slice] fun (s3:Sl) w8=>
hld w8 [(a15,.pointer v14),(a14,.pointer v13),(a13,.pointer v12),(a12,.pointer v11),(a11,.pointer v10),(a10,.pointer v9),(a9,.pointer v8),(a8,.pointer v7),(a7,.pointer v6),(a6,.pointer v5),((a5.add 1),.pointer v4)] <|
cl Pg F.mul_Engine_Mul [.pointer v14,s2.v,s3.v] w8 [.one .slice] fun (s4:Sl) w9=>
hld w9 [(a14,.pointer v13),(a13,.pointer v12),(a12,.pointer v11),(a11,.pointer v10),(a10,.pointer v9),(a9,.pointer v8),(a8,.pointer v7),(a7,.pointer v6),(a6,.pointer v5),((a5.add 1),.pointer v4)] <|
bnd (wi ((s.n:Int)+(s1.n:Int))) fun n7=>
bnd (wi (n7-1)) fun n8=>
mks w9 n8 n8 T.uint64 8 [.int .u64 0] fun s5 w10=>
Jn [] (fun J1=>
Lp [.int .i64] (fun (x1:Int) w11 C0=>
cond (decide ((x1:Int)<(s5.n:Int))) (
nwb w11 [.int .u64 0,.int .u64 0,.int .u64 0] T.t_3_uint64 fun b1 w12=>
Jn [] (fun J2=>
Lp [.int .i64] (fun (j:Int) w13 C1=>
Jn [.bool] (fun J3=>
cond (decide ((j:Int)<n6)) (
bnd (wi (n6*x1)) fun n9=>
bnd (wi (n9+j)) fun n10=>
J3 (decide ((n10:Int)<(s4.n:Int))) w13) (
J3 false w13)) fun (x2:Bool) w14=>
cond x2 (
bnd (wi (n6*x1)) fun n11=>
bnd (wi (n11+j)) fun n12=>
ixa s4 n12 1 fun a16=>
ldc (.int .u64) w14 a16 fun (v15:Int)=>
ixp ⟨b1,0,none⟩ j 3 1 fun a17=>
stc w14 a17 (.int .u64 v15) fun w15=>
bnd (wi (j+1)) fun n13=>
C1 n13 w15) (
J2 w14)) 0 w12) fun  w16=>
ldc (.int .u64) w16 (Addr.add ⟨b1,0,none⟩ 0) fun (v16:Int)=>
ldc (.int .u64) w16 (Addr.add ⟨b1,0,none⟩ 1) fun (v17:Int)=>
ldc (.int .u64) w16 (Addr.add ⟨b1,0,none⟩ 2) fun (v18:Int)=>
cl Pg F.pmul_Engine_residue [.pointer e0,.agg #[.int .u64 v16,.int .u64 v17,.int .u64 v18]] w16 [.one (.int .u64)] fun (r3:Int) w17=>
ixa s5 x1 1 fun a18=>
stc w17 a18 (.int .u64 r3) fun w18=>
bnd (wi (x1+1)) fun n14=>
C0 n14 w18) (
J1 w11)) 0 w10) fun  w19=>
nck e0 fun a19=>
ldc (.ptr) w19 a19 fun (v19:Option Addr)=>
cl Pg F.polyp_Ring_Norm [.pointer v19,s5.v] w19 [.one .slice] fun (s6:Sl) w20=>
R (s6.v) w20)
theorem Ct.pmul_Engine_Kron {e0:Option Addr} {a:Sl} {b:Sl} {w:TW} {X:Nat→Prop} {K:KT [.one .slice]} (h:Sh.pmul_Engine_Kron e0 a b (Rt X [.one .slice] K w) w.here):Ct Pg F.pmul_Engine_Kron [.pointer e0,a.v,b.v] w X [.one .slice] K:=
 cod (Sh.pmul_Engine_Kron e0 a b) 147 [] [] [(0,2,[(33,.one .bool)]),(2,0,[]),(3,9,[(106,.one (.int .i64))]),(2,2,[]),(3,13,[(13,.one (.int .i64))]),(0,13,[(121,.one .bool)])] f141 h
def Sh.pmul_Engine_moved (e0:Option Addr) (a:Sl) (k:Int) (R:Value→TW→Prop) (w:TW):Prop:=
cond (((a.n:Int):Int) == 0) (
R (.slice none 0 0) w) (
mks w k k T.uint64 8 [.int .u64 0] fun s w1=>
apd w1 T.uint64 1 8 s a fun s1 w2=>
R (s1.v) w2)
theorem Ct.pmul_Engine_moved {e0:Option Addr} {a:Sl} {k:Int} {w:TW} {X:Nat→Prop} {K:KT [.one .slice]} (h:Sh.pmul_Engine_moved e0 a k (Rt X [.one .slice] K w) w.here):Ct Pg F.pmul_Engine_moved [.pointer e0,a.v,.int .i64 k] w X [.one .slice] K:=
 cod (Sh.pmul_Engine_moved e0 a k) 14 [] [] [] f172 h
def Sh.pmul_Engine_residue (e0:Option Addr) (y0:Int) (y1:Int) (y2:Int) (R:Value→TW→Prop) (w:TW):Prop:=
nwv w fun w1=>
nck e0 fun a=>
ldc (.ptr) w1 a fun (v:Option Addr)=>
nck v fun a1=>
ldc (.ptr) w1 a1 fun (v1:Option Addr)=>
cl Pg F.modw_Mod_Mul [.pointer v1,.int .u64 9223372036854775808,.int .u64 2] w1 [.one (.int .u64)] fun (r:Int) w2=>
nck e0 fun a2=>
ldc (.ptr) w2.drew a2 fun (v2:Option Addr)=>
nck v2 fun a3=>
ldc (.ptr) w2.drew a3 fun (v3:Option Addr)=>
cl Pg F.modw_Mod_Red [.pointer v3,.int .u64 y2] w2.drew [.one (.int .u64)] fun (r1:Int) w3=>
hld w3 [(a2,.pointer v2)] <|
nck e0 fun a4=>
ldc (.ptr) w3.drew a4 fun (v4:Option Addr)=>
nck v4 fun a5=>
ldc (.ptr) w3.drew a5 fun (v5:Option Addr)=>
nck e0 fun a6=>
ldc (.ptr) w3.drew a6 fun (v6:Option Addr)=>
nck v6 fun a7=>
ldc (.ptr) w3.drew a7 fun (v7:Option Addr)=>
cl Pg F.modw_Mod_Mul [.pointer v7,.int .u64 r1,.int .u64 r] w3.drew [.one (.int .u64)] fun (r2:Int) w4=>
hld w4 [(a6,.pointer v6),(a5,.pointer v5),(a4,.pointer v4)] <|
cl Pg F.modw_Mod_Add [.pointer v5,.int .u64 r2,.int .u64 y1] w4 [.one (.int .u64)] fun (r3:Int) w5=>
hld w5 [(a6,.pointer v6),(a4,.pointer v4)] <|
nck e0 fun a8=>
ldc (.ptr) w5.drew a8 fun (v8:Option Addr)=>
nck v8 fun a9=>
ldc (.ptr) w5.drew a9 fun (v9:Option Addr)=>
nck e0 fun a10=>
ldc (.ptr) w5.drew a10 fun (v10:Option Addr)=>
nck v10 fun a11=>
ldc (.ptr) w5.drew a11 fun (v11:Option Addr)=>
cl Pg F.modw_Mod_Mul [.pointer v11,.int .u64 r3,.int .u64 r] w5.drew [.one (.int .u64)] fun (r4:Int) w6=>
hld w6 [(a10,.pointer v10),(a9,.pointer v9),(a8,.pointer v8)] <|
cl Pg F.modw_Mod_Add [.pointer v9,.int .u64 r4,.int .u64 y0] w6 [.one (.int .u64)] fun (r5:Int) w7=>
hld w7 [(a10,.pointer v10),(a8,.pointer v8)] <|
R (.int .u64 r5) w7
theorem Ct.pmul_Engine_residue {e0:Option Addr} {y0:Int} {y1:Int} {y2:Int} {w:TW} {X:Nat→Prop} {K:KT [.one (.int .u64)]} (h:Sh.pmul_Engine_residue e0 y0 y1 y2 (Rt X [.one (.int .u64)] K w) w.here):Ct Pg F.pmul_Engine_residue [.pointer e0,.agg #[.int .u64 y0,.int .u64 y1,.int .u64 y2]] w X [.one (.int .u64)] K:=
 cod (Sh.pmul_Engine_residue e0 y0 y1 y2) 65 [(3,65)] [(65,3)] [] f175 h
def Sh.pmul_packed (a:Sl) (k:Int) (R:Value→TW→Prop) (w:TW):Prop:=
bnd (wi (k*(a.n:Int))) fun n=>
mks w n n T.uint64 8 [.int .u64 0] fun s w1=>
Jn [] (fun J0=>
Lp [.int .i64] (fun (x:Int) w2 C0=>
cond (decide ((x:Int)<(a.n:Int))) (
ixa a x 1 fun a1=>
ldc (.int .u64) w2 a1 fun (v:Int)=>
bnd (wi (k*x)) fun n1=>
ixa s n1 1 fun a2=>
stc w2 a2 (.int .u64 v) fun w3=>
bnd (wi (x+1)) fun n2=>
C0 n2 w3) (
J0 w2)) 0 w1) fun  w4=>
R (s.v) w4
theorem Ct.pmul_packed {a:Sl} {k:Int} {w:TW} {X:Nat→Prop} {K:KT [.one .slice]} (h:Sh.pmul_packed a k (Rt X [.one .slice] K w) w.here):Ct Pg F.pmul_packed [a.v,.int .i64 k] w X [.one .slice] K:=
 cod (Sh.pmul_packed a k) 28 [] [] [(2,0,[]),(3,3,[(15,.one (.int .i64))])] f177 h
end Go.Proofs.YtjhfalgmgagdhaaGreatDoor.Zg
end

section
set_option maxRecDepth 100000
namespace Go.Proofs.YtjhfalgmgagdhaaGreatDoor.Zg
open Go.Proofs.Tryz
def Sh.polyp_New (p:Int) (R:Value→TW→Prop) (w:TW):Prop:=
cl Pg F.prime_Mod [.int .u64 p] w [.one .ptr,.one (.int .i64)] fun (p1:Option Addr) (r:Int) w1=>
cond ((r:Int) != 0) (
R (.tuple #[.pointer none,.int .i64 r]) w1) (
nwb w1 [.pointer p1] T.polyp_Ring fun b w2=>
R (.tuple #[.pointer (some ⟨b,0,none⟩),.int .i64 0]) w2)
theorem Ct.polyp_New {p:Int} {w:TW} {X:Nat→Prop} {K:KT [.one .ptr,.one (.int .i64)]} (h:Sh.polyp_New p (Rt X [.one .ptr,.one (.int .i64)] K w) w.here):Ct Pg F.polyp_New [.int .u64 p] w X [.one .ptr,.one (.int .i64)] K:=
 cod (Sh.polyp_New p) 17 [] [] [] f136 h
def Sh.polyp_Ring_Norm (r:Option Addr) (a:Sl) (R:Value→TW→Prop) (w:TW):Prop:=
mks w (a.n:Int) (a.n:Int) T.uint64 8 [.int .u64 0] fun s w1=>
Jn [] (fun J0=>
Lp [.int .i64] (fun (x:Int) w2 C0=>
cond (decide ((x:Int)<(a.n:Int))) (
ixa a x 1 fun a1=>
ldc (.int .u64) w2 a1 fun (v:Int)=>
nck r fun a2=>
ldc (.ptr) w2 a2 fun (v1:Option Addr)=>
cl Pg F.modw_Mod_Red [.pointer v1,.int .u64 v] w2 [.one (.int .u64)] fun (r1:Int) w3=>
ixa s x 1 fun a3=>
stc w3 a3 (.int .u64 r1) fun w4=>
bnd (wi (x+1)) fun n=>
C0 n w4) (
J0 w2)) 0 w1) fun  w5=>
cl Pg F.polyp_trim [s.v] w5 [.one .slice] fun (s1:Sl) w6=>
R (s1.v) w6
theorem Ct.polyp_Ring_Norm {r:Option Addr} {a:Sl} {w:TW} {X:Nat→Prop} {K:KT [.one .slice]} (h:Sh.polyp_Ring_Norm r a (Rt X [.one .slice] K w) w.here):Ct Pg F.polyp_Ring_Norm [.pointer r,a.v] w X [.one .slice] K:=
 cod (Sh.polyp_Ring_Norm r a) 30 [] [] [(2,0,[]),(3,3,[(13,.one (.int .i64))])] f137 h
def Sh.polyp_Ring_Times (r:Option Addr) (a:Sl) (b:Sl) (R:Value→TW→Prop) (w:TW):Prop:=
cl Pg F.polyp_Ring_Norm [.pointer r,a.v] w [.one .slice] fun (s:Sl) w1=>
cl Pg F.polyp_Ring_Norm [.pointer r,b.v] w1 [.one .slice] fun (s1:Sl) w2=>
Jn [.bool] (fun J0=>
cond (((s.n:Int):Int) == 0) (
J0 true w2) (
J0 (((s1.n:Int):Int) == 0) w2)) fun (x:Bool) w3=>
cond x (
R (.slice none 0 0) w3) (
bnd (wi ((s.n:Int)+(s1.n:Int))) fun n=>
bnd (wi (n-1)) fun n1=>
mks w3 n1 n1 T.uint64 8 [.int .u64 0] fun s2 w4=>
Jn [] (fun J1=>
Lp [.int .i64] (fun (x1:Int) w5 C0=>
cond (decide ((x1:Int)<(s.n:Int))) (
ixa s x1 1 fun a1=>
ldc (.int .u64) w5 a1 fun (v:Int)=>
Jn [] (fun J2=>
Lp [.int .i64] (fun (x2:Int) w6 C1=>
cond (decide ((x2:Int)<(s1.n:Int))) (
ixa s1 x2 1 fun a2=>
ldc (.int .u64) w6 a2 fun (v1:Int)=>
bnd (wi (x1+x2)) fun n2=>
nck r fun a3=>
ldc (.ptr) w6.drew a3 fun (v2:Option Addr)=>
bnd (wi (x1+x2)) fun n3=>
ixa s2 n3 1 fun a4=>
ldc (.int .u64) w6.drew a4 fun (v3:Int)=>
nck r fun a5=>
ldc (.ptr) w6.drew a5 fun (v4:Option Addr)=>
cl Pg F.modw_Mod_Mul [.pointer v4,.int .u64 v,.int .u64 v1] w6.drew [.one (.int .u64)] fun (r1:Int) w7=>
hld w7 [(a4,.int .u64 v3),(a3,.pointer v2)] <|
cl Pg F.modw_Mod_Add [.pointer v2,.int .u64 v3,.int .u64 r1] w7 [.one (.int .u64)] fun (r2:Int) w8=>
ixa s2 n2 1 fun a6=>
stc w8 a6 (.int .u64 r2) fun w9=>
bnd (wi (x2+1)) fun n4=>
C1 n4 w9) (
J2 w6)) 0 w5) fun  w10=>
bnd (wi (x1+1)) fun n5=>
C0 n5 w10) (
J1 w5)) 0 w4) fun  w11=>
cl Pg F.polyp_trim [s2.v] w11 [.one .slice] fun (s3:Sl) w12=>
R (s3.v) w12)
theorem Ct.polyp_Ring_Times {r:Option Addr} {a:Sl} {b:Sl} {w:TW} {X:Nat→Prop} {K:KT [.one .slice]} (h:Sh.polyp_Ring_Times r a b (Rt X [.one .slice] K w) w.here):Ct Pg F.polyp_Ring_Times [.pointer r,a.v,b.v] w X [.one .slice] K:=
 cod (Sh.polyp_Ring_Times r a b) 74 [] [] [(0,2,[(25,.one .bool)]),(2,0,[]),(3,6,[(35,.one (.int .i64))]),(2,2,[]),(3,9,[(42,.one (.int .i64))])] f138 h
def Sh.polyp_trim (a:Sl) (R:Value→TW→Prop) (w:TW):Prop:=
Jn [.slice] (fun J0=>
Lp [.slice] (fun (a1:Sl) w1 C0=>
Jn [.bool] (fun J1=>
cond (decide (((a1.n:Int):Int)>0)) (
bnd (wi ((a1.n:Int)-1)) fun n=>
ixa a1 n 1 fun a2=>
ldc (.int .u64) w1 a2 fun (v:Int)=>
J1 ((v:Int) == 0) w1) (
J1 false w1)) fun (x:Bool) w2=>
cond x (
bnd (wi ((a1.n:Int)-1)) fun n1=>
slc a1 0 n1 1 fun s=>
C0 s w2) (
J0 a1 w2)) a w) fun (a3:Sl) w3=>
R (a3.v) w3
theorem Ct.polyp_trim {a:Sl} {w:TW} {X:Nat→Prop} {K:KT [.one .slice]} (h:Sh.polyp_trim a (Rt X [.one .slice] K w) w.here):Ct Pg F.polyp_trim [a.v] w X [.one .slice] K:=
 cod (Sh.polyp_trim a) 21 [] [] [(2,0,[(0,.one .slice)]),(3,1,[(0,.one .slice)]),(0,1,[(14,.one .bool)])] f168 h
def Sh.polyp_Ring_Plus (r:Option Addr) (l:Sl) (R:Value→TW→Prop) (w:TW):Prop:=
Jn [.int .i64] (fun J0=>
Lp [.int .i64,.int .i64] (fun (n:Int) (x:Int) w1 C0=>
cond (decide ((x:Int)<(l.n:Int))) (
ixa l x 1 fun a=>
ldc (.slice) w1 a fun (v:Sl)=>
bnd (if ((v.n:Int):Int)>n then (v.n:Int) else n) fun n1=>
bnd (wi (x+1)) fun n2=>
C0 n1 n2 w1) (
J0 n w1)) 0 0 w) fun (n3:Int) w2=>
mks w2 n3 n3 T.uint64 8 [.int .u64 0] fun s w3=>
Jn [] (fun J1=>
Lp [.int .i64] (fun (x1:Int) w4 C1=>
cond (decide ((x1:Int)<(l.n:Int))) (
ixa l x1 1 fun a1=>
ldc (.slice) w4 a1 fun (v1:Sl)=>
Jn [] (fun J2=>
Lp [.int .i64] (fun (x2:Int) w5 C2=>
cond (decide ((x2:Int)<(v1.n:Int))) (
ixa v1 x2 1 fun a2=>
ldc (.int .u64) w5 a2 fun (v2:Int)=>
nck r fun a3=>
ldc (.ptr) w5.drew a3 fun (v3:Option Addr)=>
ixa s x2 1 fun a4=>
ldc (.int .u64) w5.drew a4 fun (v4:Int)=>
cl Pg F.modw_Mod_Add [.pointer v3,.int .u64 v4,.int .u64 v2] w5.drew [.one (.int .u64)] fun (r1:Int) w6=>
ixa s x2 1 fun a5=>
stc w6 a5 (.int .u64 r1) fun w7=>
bnd (wi (x2+1)) fun n4=>
C2 n4 w7) (
J2 w5)) 0 w4) fun  w8=>
bnd (wi (x1+1)) fun n5=>
C1 n5 w8) (
J1 w4)) 0 w3) fun  w9=>
cl Pg F.polyp_trim [s.v] w9 [.one .slice] fun (s1:Sl) w10=>
R (s1.v) w10
theorem Ct.polyp_Ring_Plus {r:Option Addr} {l:Sl} {w:TW} {X:Nat→Prop} {K:KT [.one .slice]} (h:Sh.polyp_Ring_Plus r l (Rt X [.one .slice] K w) w.here):Ct Pg F.polyp_Ring_Plus [.pointer r,l.v] w X [.one .slice] K:=
 cod (Sh.polyp_Ring_Plus r l) 56 [] [] [(2,0,[(5,.one (.int .i64))]),(3,3,[(5,.one (.int .i64)),(15,.one (.int .i64))]),(2,2,[]),(3,9,[(28,.one (.int .i64))]),(2,4,[]),(3,12,[(34,.one (.int .i64))])] f171 h
def Sh.polyp_Ring_Minus (r:Option Addr) (a:Sl) (b:Sl) (R:Value→TW→Prop) (w:TW):Prop:=
bnd (if ((b.n:Int):Int)>(a.n:Int) then (b.n:Int) else (a.n:Int)) fun n=>
mks w n n T.uint64 8 [.int .u64 0] fun s w1=>
Jn [] (fun J0=>
Lp [.int .i64] (fun (x:Int) w2 C0=>
cond (decide ((x:Int)<(s.n:Int))) (
nck r fun a1=>
ldc (.ptr) w2.drew a1 fun (v:Option Addr)=>
cl Pg F.polyp_at [a.v,.int .i64 x] w2.drew [.one (.int .u64)] fun (r1:Int) w3=>
hld w3 [(a1,.pointer v)] <|
cl Pg F.polyp_at [b.v,.int .i64 x] w3 [.one (.int .u64)] fun (r2:Int) w4=>
hld w4 [(a1,.pointer v)] <|
cl Pg F.modw_Mod_Sub [.pointer v,.int .u64 r1,.int .u64 r2] w4 [.one (.int .u64)] fun (r3:Int) w5=>
ixa s x 1 fun a2=>
stc w5 a2 (.int .u64 r3) fun w6=>
bnd (wi (x+1)) fun n1=>
C0 n1 w6) (
J0 w2)) 0 w1) fun  w7=>
cl Pg F.polyp_trim [s.v] w7 [.one .slice] fun (s1:Sl) w8=>
R (s1.v) w8
theorem Ct.polyp_Ring_Minus {r:Option Addr} {a:Sl} {b:Sl} {w:TW} {X:Nat→Prop} {K:KT [.one .slice]} (h:Sh.polyp_Ring_Minus r a b (Rt X [.one .slice] K w) w.here):Ct Pg F.polyp_Ring_Minus [.pointer r,a.v,b.v] w X [.one .slice] K:=
 cod (Sh.polyp_Ring_Minus r a b) 37 [] [] [(2,0,[]),(3,3,[(17,.one (.int .i64))])] f173 h
def Sh.polyp_at (a:Sl) (i:Int) (R:Value→TW→Prop) (w:TW):Prop:=
cond (decide ((i:Int)<(a.n:Int))) (
ixa a i 1 fun a1=>
ldc (.int .u64) w a1 fun (v:Int)=>
R (.int .u64 v) w) (
R (.int .u64 0) w)
theorem Ct.polyp_at {a:Sl} {i:Int} {w:TW} {X:Nat→Prop} {K:KT [.one (.int .u64)]} (h:Sh.polyp_at a i (Rt X [.one (.int .u64)] K w) w.here):Ct Pg F.polyp_at [a.v,.int .i64 i] w X [.one (.int .u64)] K:=
 cod (Sh.polyp_at a i) 13 [] [] [] f200 h
end Go.Proofs.YtjhfalgmgagdhaaGreatDoor.Zg
end

section
set_option maxRecDepth 100000
namespace Go.Proofs.YtjhfalgmgagdhaaGreatDoor.Zg
open Go.Proofs.Tryz
def Sh.polyz_Engine_Hand (e0:Option Addr) (a:Sl) (b:Sl) (R:Value→TW→Prop) (w:TW):Prop:=
cl Pg F.polyz_trim [a.v] w [.one .slice] fun (s:Sl) w1=>
cl Pg F.polyz_trim [b.v] w1 [.one .slice] fun (s1:Sl) w2=>
Jn [.bool] (fun J0=>
cond (((s.n:Int):Int) == 0) (
J0 true w2) (
J0 (((s1.n:Int):Int) == 0) w2)) fun (x:Bool) w3=>
cond x (
R (.slice none 0 0) w3) (
bnd (wi ((s.n:Int)+(s1.n:Int))) fun n=>
bnd (wi (n-1)) fun n1=>
mks w3 n1 n1 T.api_Int 32 [.slice none 0 0,.bool false] fun s2 w4=>
Jn [] (fun J1=>
Lp [.int .i64] (fun (x1:Int) w5 C0=>
cond (decide ((x1:Int)<(s.n:Int))) (
ixa s x1 2 fun a1=>
ldc (.slice) w5 (a1.add 0) fun (v:Sl)=>
ldc (.bool) w5 (a1.add 1) fun (v1:Bool)=>
nwv w5 fun w6=>
nwv w6 fun w7=>
Jn [] (fun J2=>
Lp [.int .i64,.slice,.bool] (fun (x2:Int) (x3:Sl) (x4:Bool) w8 C1=>
cond (decide ((x2:Int)<(s1.n:Int))) (
ixa s1 x2 2 fun a2=>
ldc (.slice) w8 (a2.add 0) fun (v2:Sl)=>
ldc (.bool) w8 (a2.add 1) fun (v3:Bool)=>
nwv w8 fun w9=>
nwv w9 fun w10=>
bnd (wi (x1+x2)) fun n2=>
bnd (wi (x1+x2)) fun n3=>
ixa s2 n3 2 fun a3=>
ldc (.slice) w10.drew (a3.add 0) fun (v4:Sl)=>
ldc (.bool) w10.drew (a3.add 1) fun (v5:Bool)=>
cl Pg F.polyz_Engine_product [.pointer e0,.agg #[x3.v,.bool x4],.agg #[v2.v,.bool v3]] w10.drew [.agg [.slice,.bool]] fun (r:Sl) (r1:Bool) w11=>
hld w11 [(a3.add 0,v4.v),(a3.add 1,.bool v5)] <|
cl Pg F.num_Add [.agg #[v4.v,.bool v5],.agg #[r.v,.bool r1]] w11 [.agg [.slice,.bool]] fun (r2:Sl) (r3:Bool) w12=>
ixa s2 n2 2 fun a4=>
stc w12 a4 r2.v fun w13=>
stc w13 (a4.add 1) (.bool r3) fun w14=>
bnd (wi (x2+1)) fun n4=>
C1 n4 x3 x4 w14) (
J2 w8)) 0 v v1 w7) fun  w15=>
bnd (wi (x1+1)) fun n5=>
C0 n5 w15) (
J1 w5)) 0 w4) fun  w16=>
cl Pg F.polyz_trim [s2.v] w16 [.one .slice] fun (s3:Sl) w17=>
R (s3.v) w17)
theorem Ct.polyz_Engine_Hand {e0:Option Addr} {a:Sl} {b:Sl} {w:TW} {X:Nat→Prop} {K:KT [.one .slice]} (h:Sh.polyz_Engine_Hand e0 a b (Rt X [.one .slice] K w) w.here):Ct Pg F.polyz_Engine_Hand [.pointer e0,a.v,b.v] w X [.one .slice] K:=
 cod (Sh.polyz_Engine_Hand e0 a b) 65 [(9,65),(11,67)] [(65,2),(67,2)] [(0,2,[(23,.one .bool)]),(2,0,[]),(3,6,[(33,.one (.int .i64))]),(2,2,[]),(3,9,[(40,.one (.int .i64)),(65,.one .slice),(66,.one .bool)])] f24 h
def Sh.polyz_New (t:HL I11) (R:Value→TW→Prop) (w:TW):Prop:=
nwv w fun w1=>
cl Pg F.modn_New [.agg (encs I11 t).toArray] w1 [.one .ptr] fun (p:Option Addr) w2=>
nwb w2 [.pointer p] T.polyz_Engine fun b w3=>
R (.pointer (some ⟨b,0,none⟩)) w3
theorem Ct.polyz_New {t:HL I11} {w:TW} {X:Nat→Prop} {K:KT [.one .ptr]} (h:Sh.polyz_New t (Rt X [.one .ptr] K w) w.here):Ct Pg F.polyz_New [.agg (encs I11 t).toArray] w X [.one .ptr] K:=
 cod (Sh.polyz_New t) 7 [(1,7)] [(7,11)] [] f50 h
def Sh.polyz_Deg (a:Sl) (R:Value→TW→Prop) (w:TW):Prop:=
cl Pg F.polyz_trim [a.v] w [.one .slice] fun (s:Sl) w1=>
bnd (wi ((s.n:Int)-1)) fun n=>
R (.int .i64 n) w1
theorem Ct.polyz_Deg {a:Sl} {w:TW} {X:Nat→Prop} {K:KT [.one (.int .i64)]} (h:Sh.polyz_Deg a (Rt X [.one (.int .i64)] K w) w.here):Ct Pg F.polyz_Deg [a.v] w X [.one (.int .i64)] K:=
 cod (Sh.polyz_Deg a) 7 [] [] [] f57 h
def Sh.polyz_Norm (a:Sl) (R:Value→TW→Prop) (w:TW):Prop:=
mks w (a.n:Int) (a.n:Int) T.api_Int 32 [.slice none 0 0,.bool false] fun s w1=>
Jn [] (fun J0=>
Lp [.int .i64] (fun (x:Int) w2 C0=>
cond (decide ((x:Int)<(a.n:Int))) (
ixa a x 2 fun a1=>
ldc (.slice) w2 (a1.add 0) fun (v:Sl)=>
ldc (.bool) w2 (a1.add 1) fun (v1:Bool)=>
nwv w2 fun w3=>
nwv w3 fun w4=>
cl Pg F.num_Norm [.agg #[v.v,.bool v1]] w4 [.agg [.slice,.bool]] fun (r:Sl) (r1:Bool) w5=>
ixa s x 2 fun a2=>
stc w5 a2 r.v fun w6=>
stc w6 (a2.add 1) (.bool r1) fun w7=>
bnd (wi (x+1)) fun n=>
C0 n w7) (
J0 w2)) 0 w1) fun  w8=>
cl Pg F.polyz_trim [s.v] w8 [.one .slice] fun (s1:Sl) w9=>
R (s1.v) w9
theorem Ct.polyz_Norm {a:Sl} {w:TW} {X:Nat→Prop} {K:KT [.one .slice]} (h:Sh.polyz_Norm a (Rt X [.one .slice] K w) w.here):Ct Pg F.polyz_Norm [a.v] w X [.one .slice] K:=
 cod (Sh.polyz_Norm a) 24 [(5,24)] [(24,2)] [(2,0,[]),(3,3,[(11,.one (.int .i64))])] f58 h
def Sh.polyz_trim (a:Sl) (R:Value→TW→Prop) (w:TW):Prop:=
Jn [.slice] (fun J0=>
Lp [.slice] (fun (a1:Sl) w1 C0=>
Jn [.bool] (fun J1=>
cond (decide (((a1.n:Int):Int)>0)) (
bnd (wi ((a1.n:Int)-1)) fun n=>
ixa a1 n 2 fun a2=>
ldc (.slice) w1 a2 fun (v:Sl)=>
cl Pg F.api_Nat_Zero [v.v] w1 [.one .bool] fun (ok:Bool) w2=>
J1 ok w2) (
J1 false w1)) fun (x:Bool) w3=>
cond x (
bnd (wi ((a1.n:Int)-1)) fun n1=>
slc a1 0 n1 2 fun s=>
C0 s w3) (
J0 a1 w3)) a w) fun (a3:Sl) w4=>
R (a3.v) w4
theorem Ct.polyz_trim {a:Sl} {w:TW} {X:Nat→Prop} {K:KT [.one .slice]} (h:Sh.polyz_trim a (Rt X [.one .slice] K w) w.here):Ct Pg F.polyz_trim [a.v] w X [.one .slice] K:=
 cod (Sh.polyz_trim a) 22 [] [] [(2,0,[(0,.one .slice)]),(3,1,[(0,.one .slice)]),(0,1,[(15,.one .bool)])] f67 h
def Sh.polyz_Engine_product (e0:Option Addr) (a0:Sl) (a1:Bool) (b0:Sl) (b1:Bool) (R:Value→TW→Prop) (w:TW):Prop:=
nwv w fun w1=>
nwv w1 fun w2=>
nwv w2 fun w3=>
nck e0 fun a2=>
ldc (.ptr) w3.drew a2 fun (v:Option Addr)=>
nck v fun a3=>
ldc (.ptr) w3.drew a3 fun (v1:Option Addr)=>
nck v1 fun a4=>
ldc (.ptr) w3.drew a4 fun (v2:Option Addr)=>
nck v2 fun a5=>
ldc (.ptr) w3.drew a5 fun (v3:Option Addr)=>
nck v3 fun a6=>
ldc (.ptr) w3.drew a6 fun (v4:Option Addr)=>
nck v4 fun a7=>
ldc (.ptr) w3.drew a7 fun (v5:Option Addr)=>
nck v5 fun a8=>
ldc (.ptr) w3.drew a8 fun (v6:Option Addr)=>
nck v6 fun a9=>
ldc (.ptr) w3.drew a9 fun (v7:Option Addr)=>
nck v7 fun a10=>
ldc (.ptr) w3.drew a10 fun (v8:Option Addr)=>
nck v8 fun a11=>
ldc (.ptr) w3.drew a11 fun (v9:Option Addr)=>
nck v9 fun a12=>
ldc (.ptr) w3.drew a12 fun (v10:Option Addr)=>
cl Pg F.mul_Engine_Mul [.pointer v10,a0.v,b0.v] w3.drew [.one .slice] fun (s:Sl) w4=>
hld w4 [(a11,.pointer v9),(a10,.pointer v8),(a9,.pointer v7),(a8,.pointer v6),(a7,.pointer v5),(a6,.pointer v4),(a5,.pointer v3),(a4,.pointer v2),(a3,.pointer v1),(a2,.pointer v)] <|
Jn [.slice,.bool] (fun J0=>
cond (!(a1 == b1)) (
cl Pg F.api_Nat_Zero [s.v] w4 [.one .bool] fun (ok:Bool) w5=>
nwv w5 fun w6=>
J0 s (!ok) w6) (
nwv w4 fun w7=>
J0 s false w7)) fun (x:Sl) (x1:Bool) w8=>
R (.agg #[x.v,.bool x1]) w8
theorem Ct.polyz_Engine_product {e0:Option Addr} {a0:Sl} {a1:Bool} {b0:Sl} {b1:Bool} {w:TW} {X:Nat→Prop} {K:KT [.agg [.slice,.bool]]} (h:Sh.polyz_Engine_product e0 a0 a1 b0 b1 (Rt X [.agg [.slice,.bool]] K w) w.here):Ct Pg F.polyz_Engine_product [.pointer e0,.agg #[a0.v,.bool a1],.agg #[b0.v,.bool b1]] w X [.agg [.slice,.bool]] K:=
 cod (Sh.polyz_Engine_product e0 a0 a1 b0 b1) 59 [(4,59),(5,61),(6,63)] [(59,2),(61,2),(63,2)] [(0,2,[(63,.one .slice),(64,.one .bool)])] f69 h
def Sh.polyz_Height (a:Sl) (R:Value→TW→Prop) (w:TW):Prop:=
Jn [.int .i64] (fun J0=>
Lp [.int .i64,.int .i64] (fun (n:Int) (x:Int) w1 C0=>
cond (decide ((x:Int)<(a.n:Int))) (
ixa a x 2 fun a1=>
ldc (.slice) w1 (a1.add 0) fun (v:Sl)=>
ldc (.bool) w1 (a1.add 1) fun (_:Bool)=>
nwv w1 fun w2=>
nwv w2 fun w3=>
cl Pg F.api_Nat_Bits [v.v] w3 [.one (.int .i64)] fun (r:Int) w4=>
bnd (if (r:Int)>n then r else n) fun n1=>
bnd (wi (x+1)) fun n2=>
C0 n1 n2 w4) (
J0 n w1)) 0 0 w) fun (n3:Int) w5=>
R (.int .i64 n3) w5
theorem Ct.polyz_Height {a:Sl} {w:TW} {X:Nat→Prop} {K:KT [.one (.int .i64)]} (h:Sh.polyz_Height a (Rt X [.one (.int .i64)] K w) w.here):Ct Pg F.polyz_Height [a.v] w X [.one (.int .i64)] K:=
 cod (Sh.polyz_Height a) 19 [(5,19)] [(19,2)] [(2,0,[(3,.one (.int .i64))]),(3,3,[(3,.one (.int .i64)),(8,.one (.int .i64))])] f71 h
def Sh.polyz_Reduce (a:Sl) (p:Int) (R:Value→TW→Prop) (w:TW):Prop:=
Jn [.bool] (fun J0=>
cond (decide ((p:Int)<2)) (
J0 true w) (
J0 (decide ((p:Int)≥4611686018427387904)) w)) fun (x:Bool) w1=>
cond x (
R (.tuple #[.slice none 0 0,.int .i64 3]) w1) (
mks w1 (a.n:Int) (a.n:Int) T.uint64 8 [.int .u64 0] fun s w2=>
Jn [] (fun J1=>
Lp [.int .i64] (fun (x1:Int) w3 C0=>
cond (decide ((x1:Int)<(a.n:Int))) (
ixa a x1 2 fun a1=>
ldc (.slice) w3 (a1.add 0) fun (v:Sl)=>
ldc (.bool) w3 (a1.add 1) fun (v1:Bool)=>
nwv w3 fun w4=>
nwv w4 fun w5=>
cl Pg F.polyz_residue [.agg #[v.v,.bool v1],.int .u64 p] w5 [.one (.int .u64)] fun (r:Int) w6=>
ixa s x1 1 fun a2=>
stc w6 a2 (.int .u64 r) fun w7=>
bnd (wi (x1+1)) fun n=>
C0 n w7) (
J1 w3)) 0 w2) fun  w8=>
Jn [.slice] (fun J2=>
Lp [.slice] (fun (out:Sl) w9 C1=>
Jn [.bool] (fun J3=>
cond (decide (((out.n:Int):Int)>0)) (
bnd (wi ((out.n:Int)-1)) fun n1=>
ixa out n1 1 fun a3=>
ldc (.int .u64) w9 a3 fun (v2:Int)=>
J3 ((v2:Int) == 0) w9) (
J3 false w9)) fun (x2:Bool) w10=>
cond x2 (
bnd (wi ((out.n:Int)-1)) fun n2=>
slc out 0 n2 1 fun s1=>
C1 s1 w10) (
J2 out w10)) s w8) fun (out1:Sl) w11=>
R (.tuple #[out1.v,.int .i64 0]) w11)
theorem Ct.polyz_Reduce {a:Sl} {p:Int} {w:TW} {X:Nat→Prop} {K:KT [.one .slice,.one (.int .i64)]} (h:Sh.polyz_Reduce a p (Rt X [.one .slice,.one (.int .i64)] K w) w.here):Ct Pg F.polyz_Reduce [a.v,.int .u64 p] w X [.one .slice,.one (.int .i64)] K:=
 cod (Sh.polyz_Reduce a p) 50 [(8,50)] [(50,2)] [(0,1,[(14,.one .bool)]),(2,0,[]),(3,5,[(20,.one (.int .i64))]),(2,2,[(6,.one .slice)]),(3,9,[(6,.one .slice)]),(0,9,[(43,.one .bool)])] f107 h
def Sh.polyz_residue (a0:Sl) (a1:Bool) (p:Int) (R:Value→TW→Prop) (w:TW):Prop:=
nwv w fun w1=>
cl Pg F.limb_DivWord [a0.v,.int .u64 p] w1 [.one .slice,.one (.int .u64),.one (.int .i64)] fun (_:Sl) (r:Int) (_:Int) w2=>
Jn [.bool] (fun J0=>
cond a1 (
J0 (decide ((r:Int)>0)) w2) (
J0 false w2)) fun (x:Bool) w3=>
Jn [.int .u64] (fun J1=>
cond x (
bnd (wu (p-r)) fun n=>
J1 n w3) (
J1 r w3)) fun (r2:Int) w4=>
R (.int .u64 r2) w4
theorem Ct.polyz_residue {a0:Sl} {a1:Bool} {p:Int} {w:TW} {X:Nat→Prop} {K:KT [.one (.int .u64)]} (h:Sh.polyz_residue a0 a1 p (Rt X [.one (.int .u64)] K w) w.here):Ct Pg F.polyz_residue [.agg #[a0.v,.bool a1],.int .u64 p] w X [.one (.int .u64)] K:=
 cod (Sh.polyz_residue a0 a1 p) 26 [(2,26)] [(26,2)] [(0,2,[(21,.one .bool)]),(1,3,[(6,.one (.int .u64))])] f135 h
end Go.Proofs.YtjhfalgmgagdhaaGreatDoor.Zg
end

section
set_option maxRecDepth 100000
namespace Go.Proofs.YtjhfalgmgagdhaaGreatDoor.Zg
open Go.Proofs.Tryz
def Sh.power_New (t:HL I11) (R:Value→TW→Prop) (w:TW):Prop:=
nwv w fun w1=>
cl Pg F.num_New [.agg (encs I11 t).toArray] w1 [.one .ptr] fun (p:Option Addr) w2=>
nwb w2 [.pointer p] T.power_Engine fun b w3=>
R (.pointer (some ⟨b,0,none⟩)) w3
theorem Ct.power_New {t:HL I11} {w:TW} {X:Nat→Prop} {K:KT [.one .ptr]} (h:Sh.power_New t (Rt X [.one .ptr] K w) w.here):Ct Pg F.power_New [.agg (encs I11 t).toArray] w X [.one .ptr] K:=
 cod (Sh.power_New t) 7 [(1,7)] [(7,11)] [] f116 h
end Go.Proofs.YtjhfalgmgagdhaaGreatDoor.Zg
end

section
set_option maxRecDepth 100000
namespace Go.Proofs.YtjhfalgmgagdhaaGreatDoor.Zg
open Go.Proofs.Tryz
def Sh.prime_Is (n:Int) (R:Value→TW→Prop) (w:TW):Prop:=
cond (decide ((n:Int)<2)) (
R (.bool false) w) (
nwv w fun w1=>
nwv w1 fun w2=>
Jn [.int .u64,.int .u64,.int .u64,.int .u64,.int .u64,.int .u64,.int .u64,.int .u64,.int .u64,.int .u64,.int .u64,.int .u64] (fun J0=>
Lp [.int .i64,.int .u64,.int .u64,.int .u64,.int .u64,.int .u64,.int .u64,.int .u64,.int .u64,.int .u64,.int .u64,.int .u64,.int .u64] (fun (x:Int) (small:Int) (small1:Int) (small2:Int) (small3:Int) (small4:Int) (small5:Int) (small6:Int) (small7:Int) (small8:Int) (small9:Int) (small10:Int) (small11:Int) w3 C0=>
cond (decide ((x:Int)<12)) (
inr x 12 (ixq (.int .u64) [.int .u64 2,.int .u64 3,.int .u64 5,.int .u64 7,.int .u64 11,.int .u64 13,.int .u64 17,.int .u64 19,.int .u64 23,.int .u64 29,.int .u64 31,.int .u64 37] (Int.toNat x*1) fun (v:Int)=>
remK n v fun n1=>
cond ((n1:Int) == 0) (
R (.bool ((n:Int) == v)) w3) (
bnd (wi (x+1)) fun n2=>
C0 n2 small small1 small2 small3 small4 small5 small6 small7 small8 small9 small10 small11 w3))) (
J0 small small1 small2 small3 small4 small5 small6 small7 small8 small9 small10 small11 w3)) 0 2 3 5 7 11 13 17 19 23 29 31 37 w2) fun (small12:Int) (small13:Int) (small14:Int) (small15:Int) (small16:Int) (small17:Int) (small18:Int) (small19:Int) (small20:Int) (small21:Int) (small22:Int) (small23:Int) w4=>
bnd (wu (n-1)) fun n3=>
cl Pg F.bits_TrailingZeros64 [.int .u64 n3] w4 [.one (.int .i64)] fun (r:Int) w5=>
bnd (wu (n-1)) fun n4=>
bnd (wu (r)) fun n5=>
shrK .u64 n4 n5 fun n6=>
Jn [] (fun J1=>
Lp [.int .i64] (fun (x1:Int) w6 C1=>
cond (decide ((x1:Int)<12)) (
inr x1 12 (ixq (.int .u64) [.int .u64 small12,.int .u64 small13,.int .u64 small14,.int .u64 small15,.int .u64 small16,.int .u64 small17,.int .u64 small18,.int .u64 small19,.int .u64 small20,.int .u64 small21,.int .u64 small22,.int .u64 small23] (Int.toNat x1*1) fun (v1:Int)=>
cl Pg F.prime_witness [.int .u64 v1,.int .u64 n,.int .u64 n6,.int .i64 r] w6 [.one .bool] fun (ok:Bool) w7=>
cond ok (
R (.bool false) w7) (
bnd (wi (x1+1)) fun n7=>
C1 n7 w7))) (
J1 w6)) 0 w5) fun  w8=>
R (.bool true) w8)
theorem Ct.prime_Is {n:Int} {w:TW} {X:Nat→Prop} {K:KT [.one .bool]} (h:Sh.prime_Is n (Rt X [.one .bool] K w) w.here):Ct Pg F.prime_Is [.int .u64 n] w X [.one .bool] K:=
 cod (Sh.prime_Is n) 43 [(3,43)] [(43,12)] [(2,0,[(43,.one (.int .u64)),(44,.one (.int .u64)),(45,.one (.int .u64)),(46,.one (.int .u64)),(47,.one (.int .u64)),(48,.one (.int .u64)),(49,.one (.int .u64)),(50,.one (.int .u64)),(51,.one (.int .u64)),(52,.one (.int .u64)),(53,.one (.int .u64)),(54,.one (.int .u64))]),(3,5,[(14,.one (.int .i64)),(43,.one (.int .u64)),(44,.one (.int .u64)),(45,.one (.int .u64)),(46,.one (.int .u64)),(47,.one (.int .u64)),(48,.one (.int .u64)),(49,.one (.int .u64)),(50,.one (.int .u64)),(51,.one (.int .u64)),(52,.one (.int .u64)),(53,.one (.int .u64)),(54,.one (.int .u64))]),(2,2,[]),(3,13,[(34,.one (.int .i64))])] f106 h
def Sh.prime_witness (a:Int) (n:Int) (d:Int) (s:Int) (R:Value→TW→Prop) (w:TW):Prop:=
remK a n fun n1=>
cl Pg F.prime_pow [.int .u64 n1,.int .u64 d,.int .u64 n] w [.one (.int .u64)] fun (r:Int) w1=>
Jn [.bool] (fun J0=>
cond ((r:Int) == 0) (
J0 true w1) (
cond ((r:Int) == 1) (
J0 true w1) (
bnd (wu (n-1)) fun n2=>
J0 ((r:Int) == n2) w1))) fun (x:Bool) w2=>
cond x (
R (.bool false) w2) (
bnd (wi (s-1)) fun n3=>
Jn [] (fun J1=>
Lp [.int .u64,.int .i64] (fun (x1:Int) (x2:Int) w3 C0=>
cond (decide ((x2:Int)<n3)) (
cl Pg F.prime_mul [.int .u64 x1,.int .u64 x1,.int .u64 n] w3 [.one (.int .u64)] fun (r1:Int) w4=>
bnd (wu (n-1)) fun n4=>
cond ((r1:Int) == n4) (
R (.bool false) w4) (
bnd (wi (x2+1)) fun n5=>
C0 r1 n5 w4)) (
J1 w3)) r 0 w2) fun  w5=>
R (.bool true) w5)
theorem Ct.prime_witness {a:Int} {n:Int} {d:Int} {s:Int} {w:TW} {X:Nat→Prop} {K:KT [.one .bool]} (h:Sh.prime_witness a n d s (Rt X [.one .bool] K w) w.here):Ct Pg F.prime_witness [.int .u64 a,.int .u64 n,.int .u64 d,.int .i64 s] w X [.one .bool] K:=
 cod (Sh.prime_witness a n d s) 41 [] [] [(0,2,[(27,.one .bool)]),(2,0,[]),(3,5,[(9,.one (.int .u64)),(30,.one (.int .i64))])] f134 h
def Sh.prime_pow (a:Int) (k:Int) (n:Int) (R:Value→TW→Prop) (w:TW):Prop:=
remK 1 n fun n1=>
Jn [.int .u64] (fun J0=>
Lp [.int .u64,.int .u64,.int .u64] (fun (a1:Int) (k1:Int) (out:Int) w1 C0=>
cond (decide ((k1:Int)>0)) (
remK k1 2 fun n2=>
Jn [.int .u64] (fun J1=>
cond ((n2:Int) == 1) (
cl Pg F.prime_mul [.int .u64 out,.int .u64 a1,.int .u64 n] w1 [.one (.int .u64)] fun (r:Int) w2=>
J1 r w2) (
J1 out w1)) fun (out1:Int) w3=>
cl Pg F.prime_mul [.int .u64 a1,.int .u64 a1,.int .u64 n] w3 [.one (.int .u64)] fun (r1:Int) w4=>
divK .u64 k1 2 fun n3=>
C0 r1 n3 out1 w4) (
J0 out w1)) a k n1 w) fun (out2:Int) w5=>
R (.int .u64 out2) w5
theorem Ct.prime_pow {a:Int} {k:Int} {n:Int} {w:TW} {X:Nat→Prop} {K:KT [.one (.int .u64)]} (h:Sh.prime_pow a k n (Rt X [.one (.int .u64)] K w) w.here):Ct Pg F.prime_pow [.int .u64 a,.int .u64 k,.int .u64 n] w X [.one (.int .u64)] K:=
 cod (Sh.prime_pow a k n) 26 [] [] [(2,0,[(7,.one (.int .u64))]),(3,2,[(0,.one (.int .u64)),(1,.one (.int .u64)),(7,.one (.int .u64))]),(1,4,[(7,.one (.int .u64))])] f164 h
def Sh.prime_mul (a:Int) (b:Int) (n:Int) (R:Value→TW→Prop) (w:TW):Prop:=
cl Pg F.bits_Mul64 [.int .u64 a,.int .u64 b] w [.one (.int .u64),.one (.int .u64)] fun (r:Int) (r1:Int) w1=>
cl Pg F.bits_Div64 [.int .u64 r,.int .u64 r1,.int .u64 n] w1 [.one (.int .u64),.one (.int .u64)] fun (_:Int) (r3:Int) w2=>
R (.int .u64 r3) w2
theorem Ct.prime_mul {a:Int} {b:Int} {n:Int} {w:TW} {X:Nat→Prop} {K:KT [.one (.int .u64)]} (h:Sh.prime_mul a b n (Rt X [.one (.int .u64)] K w) w.here):Ct Pg F.prime_mul [.int .u64 a,.int .u64 b,.int .u64 n] w X [.one (.int .u64)] K:=
 cod (Sh.prime_mul a b n) 25 [] [] [] f165 h
def Sh.prime_Mod (p:Int) (R:Value→TW→Prop) (w:TW):Prop:=
Jn [.bool] (fun J0=>
remK p 2 fun n=>
cond ((n:Int) == 0) (
J0 true w) (
cond (decide ((p:Int)≥4611686018427387904)) (
J0 true w) (
cl Pg F.prime_Is [.int .u64 p] w [.one .bool] fun (ok:Bool) w1=>
J0 (!ok) w1))) fun (x:Bool) w2=>
cond x (
R (.tuple #[.pointer none,.int .i64 3]) w2) (
cl Pg F.modw_New [.int .u64 p] w2 [.one .ptr,.one (.int .i64)] fun (p1:Option Addr) (r:Int) w3=>
R (.tuple #[.pointer p1,.int .i64 r]) w3)
theorem Ct.prime_Mod {p:Int} {w:TW} {X:Nat→Prop} {K:KT [.one .ptr,.one (.int .i64)]} (h:Sh.prime_Mod p (Rt X [.one .ptr,.one (.int .i64)] K w) w.here):Ct Pg F.prime_Mod [.int .u64 p] w X [.one .ptr,.one (.int .i64)] K:=
 cod (Sh.prime_Mod p) 20 [] [] [(0,1,[(15,.one .bool)])] f166 h
def Sh.prime_Three (R:Value→TW→Prop) (w:TW):Prop:=
nwv w fun w1=>
nwv w1 fun w2=>
R (.agg #[.int .u64 180143985094819841,.int .i64 55,.int .u64 6,.int .u64 1945555039024054273,.int .i64 56,.int .u64 5,.int .u64 4179340454199820289,.int .i64 57,.int .u64 3]) w2
theorem Ct.prime_Three {w:TW} {X:Nat→Prop} {K:KT [.agg [.int .u64,.int .i64,.int .u64,.int .u64,.int .i64,.int .u64,.int .u64,.int .i64,.int .u64]]} (h:Sh.prime_Three (Rt X [.agg [.int .u64,.int .i64,.int .u64,.int .u64,.int .i64,.int .u64,.int .u64,.int .i64,.int .u64]] K w) w.here):Ct Pg F.prime_Three [] w X [.agg [.int .u64,.int .i64,.int .u64,.int .u64,.int .i64,.int .u64,.int .u64,.int .i64,.int .u64]] K:=
 cod Sh.prime_Three 5 [(0,5)] [(5,9)] [] f224 h
def Sh.prime_Root (p:Int) (log:Int) (R:Value→TW→Prop) (w:TW):Prop:=
cl Pg F.prime_Mod [.int .u64 p] w [.one .ptr,.one (.int .i64)] fun (p1:Option Addr) (r:Int) w1=>
cond ((r:Int) != 0) (
R (.tuple #[.int .u64 0,.int .i64 r]) w1) (
Jn [.bool] (fun J0=>
cond (decide ((log:Int)<0)) (
J0 true w1) (
cond (decide ((log:Int)>20)) (
J0 true w1) (
bnd (wu (p-1)) fun n=>
bnd (wu (log)) fun n1=>
shlK .u64 1 n1 fun n2=>
remK n n2 fun n3=>
J0 ((n3:Int) != 0) w1))) fun (x:Bool) w2=>
cond x (
R (.tuple #[.int .u64 0,.int .i64 1]) w2) (
cond ((log:Int) == 0) (
R (.tuple #[.int .u64 1,.int .i64 0]) w2) (
Jn [.int .u64] (fun J1=>
Lp [.int .u64] (fun (x1:Int) w3 C0=>
bnd (wu (p-1)) fun n4=>
divK .u64 n4 2 fun n5=>
cl Pg F.modw_Mod_Pow [.pointer p1,.int .u64 x1,.int .u64 n5] w3 [.one (.int .u64)] fun (r1:Int) w4=>
bnd (wu (p-1)) fun n6=>
cond ((r1:Int) != n6) (
bnd (wu (x1+1)) fun n7=>
C0 n7 w4) (
J1 x1 w4)) 2 w2) fun (x2:Int) w5=>
bnd (wu (p-1)) fun n8=>
bnd (wu (log)) fun n9=>
shrK .u64 n8 n9 fun n10=>
cl Pg F.modw_Mod_Pow [.pointer p1,.int .u64 x2,.int .u64 n10] w5 [.one (.int .u64)] fun (r2:Int) w6=>
R (.tuple #[.int .u64 r2,.int .i64 0]) w6)))
theorem Ct.prime_Root {p:Int} {log:Int} {w:TW} {X:Nat→Prop} {K:KT [.one (.int .u64),.one (.int .i64)]} (h:Sh.prime_Root p log (Rt X [.one (.int .u64),.one (.int .i64)] K w) w.here):Ct Pg F.prime_Root [.int .u64 p,.int .i64 log] w X [.one (.int .u64),.one (.int .i64)] K:=
 cod (Sh.prime_Root p log) 53 [] [] [(0,4,[(31,.one .bool)]),(2,0,[(8,.one (.int .u64))]),(3,9,[(8,.one (.int .u64))])] f226 h
end Go.Proofs.YtjhfalgmgagdhaaGreatDoor.Zg
end

section
set_option maxRecDepth 100000
namespace Go.Proofs.YtjhfalgmgagdhaaGreatDoor.Zg
open Go.Proofs.Tryz
def Sh.radix_New (t:HL I11) (R:Value→TW→Prop) (w:TW):Prop:=
nwv w fun w1=>
cl Pg F.root_New [.agg (encs I11 t).toArray] w1 [.one .ptr] fun (p:Option Addr) w2=>
nwb w2 [.pointer p] T.radix_Engine fun b w3=>
R (.pointer (some ⟨b,0,none⟩)) w3
theorem Ct.radix_New {t:HL I11} {w:TW} {X:Nat→Prop} {K:KT [.one .ptr]} (h:Sh.radix_New t (Rt X [.one .ptr] K w) w.here):Ct Pg F.radix_New [.agg (encs I11 t).toArray] w X [.one .ptr] K:=
 cod (Sh.radix_New t) 7 [(1,7)] [(7,11)] [] f178 h
end Go.Proofs.YtjhfalgmgagdhaaGreatDoor.Zg
end
