/- A part of the proofs of this seat's laws: words, lemmas or contracts of its functions. -/
import Derived.Test.YtjhfalgmgagdhaaGreatDoorGC
set_option linter.unusedVariables false
set_option linter.unusedSimpArgs false
set_option linter.unnecessarySimpa false
section
set_option maxRecDepth 100000
namespace Go.Proofs.YtjhfalgmgagdhaaGreatDoor.Zg
open Go.Proofs.Tryz
def Sh.zigguratref02_Cmp (a:Sl) (b:Sl) (R:Value→TW→Prop) (w:TW):Prop:=
cond (((a.n:Int):Int) != (b.n:Int)) (
cond (decide (((a.n:Int):Int)<(b.n:Int))) (
R (.int .i64 (-1)) w) (
R (.int .i64 1) w)) (
bnd (wi ((a.n:Int)-1)) fun n=>
Jn [] (fun J0=>
Lp [.int .i64] (fun (i:Int) w1 C0=>
cond (decide ((i:Int)≥0)) (
ixa a i 1 fun a1=>
ldc (.int .u64) w1.drew a1 fun (v:Int)=>
ixa b i 1 fun a2=>
ldc (.int .u64) w1.drew a2 fun (v1:Int)=>
cond (decide ((v:Int)<v1)) (
R (.int .i64 (-1)) w1.drew) (
ixa a i 1 fun a3=>
ldc (.int .u64) w1.drew.drew a3 fun (v2:Int)=>
ixa b i 1 fun a4=>
ldc (.int .u64) w1.drew.drew a4 fun (v3:Int)=>
cond (decide ((v2:Int)>v3)) (
R (.int .i64 1) w1.drew.drew) (
bnd (wi (i-1)) fun n1=>
C0 n1 w1.drew.drew))) (
J0 w1)) n w) fun  w2=>
R (.int .i64 0) w2)
theorem Ct.zigguratref02_Cmp {a:Sl} {b:Sl} {w:TW} {X:Nat→Prop} {K:KT [.one (.int .i64)]} (h:Sh.zigguratref02_Cmp a b (Rt X [.one (.int .i64)] K w) w.here):Ct Pg F.zigguratref02_Cmp [a.v,b.v] w X [.one (.int .i64)] K:=
 cod (Sh.zigguratref02_Cmp a b) 41 [] [] [(2,0,[]),(3,6,[(5,.one (.int .i64))])] f13 h
def Sh.zigguratref02_From (a:Sl) (R:Value→TW→Prop) (w:TW):Prop:=
bnd (wi (2*(a.n:Int))) fun n=>
mks w 0 n T.uint64 8 [.int .u64 0] fun s w1=>
Jn [.slice] (fun J0=>
Lp [.slice,.int .i64] (fun (out:Sl) (i:Int) w2 C0=>
cond (decide ((i:Int)<(a.n:Int))) (
ixa a i 1 fun a1=>
ldc (.int .u64) w2.drew a1 fun (v:Int)=>
remK v 4294967296 fun n1=>
ixa a i 1 fun a2=>
ldc (.int .u64) w2.drew a2 fun (v1:Int)=>
divK .u64 v1 4294967296 fun n2=>
nwb w2.drew [.int .u64 n1,.int .u64 n2] T.uint64 fun b w3=>
hld w3 [(a2,.int .u64 v1),(a1,.int .u64 v)] <|
apd w3 T.uint64 1 8 out ⟨(some ⟨b,0,none⟩),2,2⟩ fun s1 w4=>
hld w4 [(a2,.int .u64 v1),(a1,.int .u64 v)] <|
bnd (wi (i+1)) fun n3=>
C0 s1 n3 w4) (
J0 out w2)) s 0 w1) fun (out1:Sl) w5=>
cl Pg F.zigguratref02_norm [out1.v] w5 [.one .slice] fun (s2:Sl) w6=>
R (s2.v) w6
theorem Ct.zigguratref02_From {a:Sl} {w:TW} {X:Nat→Prop} {K:KT [.one .slice]} (h:Sh.zigguratref02_From a (Rt X [.one .slice] K w) w.here):Ct Pg F.zigguratref02_From [a.v] w X [.one .slice] K:=
 cod (Sh.zigguratref02_From a) 30 [] [] [(2,0,[(3,.one .slice)]),(3,3,[(3,.one .slice),(4,.one (.int .i64))])] f47 h
def Sh.zigguratref02_Same (a:Sl) (b:Sl) (R:Value→TW→Prop) (w:TW):Prop:=
cl Pg F.zigguratref02_To [a.v] w [.one .slice] fun (s:Sl) w1=>
cond (((s.n:Int):Int) != (b.n:Int)) (
R (.bool false) w1) (
Jn [] (fun J0=>
Lp [.int .i64] (fun (i:Int) w2 C0=>
cond (decide ((i:Int)<(s.n:Int))) (
ixa s i 1 fun a1=>
ldc (.int .u64) w2.drew a1 fun (v:Int)=>
ixa b i 1 fun a2=>
ldc (.int .u64) w2.drew a2 fun (v1:Int)=>
cond ((v:Int) != v1) (
R (.bool false) w2.drew) (
bnd (wi (i+1)) fun n=>
C0 n w2.drew)) (
J0 w2)) 0 w1) fun  w3=>
R (.bool true) w3)
theorem Ct.zigguratref02_Same {a:Sl} {b:Sl} {w:TW} {X:Nat→Prop} {K:KT [.one .bool]} (h:Sh.zigguratref02_Same a b (Rt X [.one .bool] K w) w.here):Ct Pg F.zigguratref02_Same [a.v,b.v] w X [.one .bool] K:=
 cod (Sh.zigguratref02_Same a b) 29 [] [] [(2,0,[]),(3,5,[(6,.one (.int .i64))])] f56 h
def Sh.zigguratref02_Bits (a:Sl) (R:Value→TW→Prop) (w:TW):Prop:=
cond (((a.n:Int):Int) == 0) (
R (.int .i64 0) w) (
bnd (wi ((a.n:Int)-1)) fun n=>
bnd (wi (32*n)) fun n1=>
bnd (wi ((a.n:Int)-1)) fun n2=>
ixa a n2 1 fun a1=>
ldc (.int .u64) w a1 fun (v:Int)=>
Jn [.int .i64] (fun J0=>
Lp [.int .i64,.int .u64] (fun (n3:Int) (y:Int) w1 C0=>
cond (decide ((y:Int)>0)) (
bnd (wi (n3+1)) fun n4=>
divK .u64 y 2 fun n5=>
C0 n4 n5 w1) (
J0 n3 w1)) n1 v w) fun (n6:Int) w2=>
R (.int .i64 n6) w2)
theorem Ct.zigguratref02_Bits {a:Sl} {w:TW} {X:Nat→Prop} {K:KT [.one (.int .i64)]} (h:Sh.zigguratref02_Bits a (Rt X [.one (.int .i64)] K w) w.here):Ct Pg F.zigguratref02_Bits [a.v] w X [.one (.int .i64)] K:=
 cod (Sh.zigguratref02_Bits a) 25 [] [] [(2,0,[(3,.one (.int .i64))]),(3,5,[(3,.one (.int .i64)),(4,.one (.int .u64))])] f70 h
def Sh.zigguratref02_norm (a:Sl) (R:Value→TW→Prop) (w:TW):Prop:=
Jn [.int .i64] (fun J0=>
Lp [.int .i64] (fun (k:Int) w1 C0=>
Jn [.bool] (fun J1=>
cond (decide ((k:Int)>0)) (
bnd (wi (k-1)) fun n=>
ixa a n 1 fun a1=>
ldc (.int .u64) w1 a1 fun (v:Int)=>
J1 ((v:Int) == 0) w1) (
J1 false w1)) fun (x:Bool) w2=>
cond x (
bnd (wi (k-1)) fun n1=>
C0 n1 w2) (
J0 k w2)) (a.n:Int) w) fun (k1:Int) w3=>
slc a 0 k1 1 fun s=>
R (s.v) w3
theorem Ct.zigguratref02_norm {a:Sl} {w:TW} {X:Nat→Prop} {K:KT [.one .slice]} (h:Sh.zigguratref02_norm a (Rt X [.one .slice] K w) w.here):Ct Pg F.zigguratref02_norm [a.v] w X [.one .slice] K:=
 cod (Sh.zigguratref02_norm a) 21 [] [] [(2,0,[(3,.one (.int .i64))]),(3,2,[(3,.one (.int .i64))]),(0,2,[(15,.one .bool)])] f90 h
def Sh.zigguratref02_Add (a:Sl) (b:Sl) (R:Value→TW→Prop) (w:TW):Prop:=
bnd (if ((b.n:Int):Int)>(a.n:Int) then (b.n:Int) else (a.n:Int)) fun n=>
bnd (wi (n+1)) fun n1=>
mks w 0 n1 T.uint64 8 [.int .u64 0] fun s w1=>
Jn [.slice] (fun J0=>
Lp [.slice,.int .u64,.int .i64] (fun (out:Sl) (c:Int) (i:Int) w2 C0=>
Jn [.bool] (fun J1=>
cond (decide ((i:Int)<(a.n:Int))) (
J1 true w2) (
cond (decide ((i:Int)<(b.n:Int))) (
J1 true w2) (
J1 (decide ((c:Int)>0)) w2))) fun (x:Bool) w3=>
cond x (
Jn [.int .u64] (fun J2=>
cond (decide ((i:Int)<(a.n:Int))) (
ixa a i 1 fun a1=>
ldc (.int .u64) w3 a1 fun (v:Int)=>
bnd (wu (c+v)) fun n2=>
J2 n2 w3) (
J2 c w3)) fun (c1:Int) w4=>
Jn [.int .u64] (fun J3=>
cond (decide ((i:Int)<(b.n:Int))) (
ixa b i 1 fun a2=>
ldc (.int .u64) w4 a2 fun (v1:Int)=>
bnd (wu (c1+v1)) fun n3=>
J3 n3 w4) (
J3 c1 w4)) fun (c2:Int) w5=>
remK c2 4294967296 fun n4=>
nwb w5 [.int .u64 n4] T.uint64 fun b1 w6=>
apd w6 T.uint64 1 8 out ⟨(some ⟨b1,0,none⟩),1,1⟩ fun s1 w7=>
divK .u64 c2 4294967296 fun n5=>
bnd (wi (i+1)) fun n6=>
C0 s1 n5 n6 w7) (
J0 out w3)) s 0 0 w1) fun (out1:Sl) w8=>
cl Pg F.zigguratref02_norm [out1.v] w8 [.one .slice] fun (s2:Sl) w9=>
R (s2.v) w9
theorem Ct.zigguratref02_Add {a:Sl} {b:Sl} {w:TW} {X:Nat→Prop} {K:KT [.one .slice]} (h:Sh.zigguratref02_Add a b (Rt X [.one .slice] K w) w.here):Ct Pg F.zigguratref02_Add [a.v,b.v] w X [.one .slice] K:=
 cod (Sh.zigguratref02_Add a b) 60 [] [] [(2,0,[(5,.one .slice)]),(3,4,[(5,.one .slice),(6,.one (.int .u64)),(7,.one (.int .i64))]),(0,4,[(28,.one .bool)]),(1,7,[(6,.one (.int .u64))]),(1,9,[(6,.one (.int .u64))])] f96 h
def Sh.zigguratref02_Sub (a:Sl) (b:Sl) (R:Value→TW→Prop) (w:TW):Prop:=
mks w 0 (a.n:Int) T.uint64 8 [.int .u64 0] fun s w1=>
Jn [.slice] (fun J0=>
Lp [.slice,.int .u64,.int .i64] (fun (out:Sl) (c:Int) (i:Int) w2 C0=>
cond (decide ((i:Int)<(a.n:Int))) (
Jn [.int .u64] (fun J1=>
cond (decide ((i:Int)<(b.n:Int))) (
ixa b i 1 fun a1=>
ldc (.int .u64) w2 a1 fun (v:Int)=>
bnd (wu (c+v)) fun n=>
J1 n w2) (
J1 c w2)) fun (s1:Int) w3=>
ixa a i 1 fun a2=>
ldc (.int .u64) w3 a2 fun (v1:Int)=>
Jn [.slice,.int .u64] (fun J2=>
cond (decide ((v1:Int)≥s1)) (
ixa a i 1 fun a3=>
ldc (.int .u64) w3 a3 fun (v2:Int)=>
bnd (wu (v2-s1)) fun n1=>
nwb w3 [.int .u64 n1] T.uint64 fun b1 w4=>
apd w4 T.uint64 1 8 out ⟨(some ⟨b1,0,none⟩),1,1⟩ fun s2 w5=>
J2 s2 0 w5) (
ixa a i 1 fun a4=>
ldc (.int .u64) w3 a4 fun (v3:Int)=>
bnd (wu (v3+4294967296)) fun n2=>
bnd (wu (n2-s1)) fun n3=>
nwb w3 [.int .u64 n3] T.uint64 fun b2 w6=>
apd w6 T.uint64 1 8 out ⟨(some ⟨b2,0,none⟩),1,1⟩ fun s3 w7=>
J2 s3 1 w7)) fun (out1:Sl) (c1:Int) w8=>
bnd (wi (i+1)) fun n4=>
C0 out1 c1 n4 w8) (
J0 out w2)) s 0 0 w1) fun (out2:Sl) w9=>
cl Pg F.zigguratref02_norm [out2.v] w9 [.one .slice] fun (s4:Sl) w10=>
R (s4.v) w10
theorem Ct.zigguratref02_Sub {a:Sl} {b:Sl} {w:TW} {X:Nat→Prop} {K:KT [.one .slice]} (h:Sh.zigguratref02_Sub a b (Rt X [.one .slice] K w) w.here):Ct Pg F.zigguratref02_Sub [a.v,b.v] w X [.one .slice] K:=
 cod (Sh.zigguratref02_Sub a b) 56 [] [] [(2,0,[(5,.one .slice)]),(3,4,[(5,.one .slice),(6,.one (.int .u64)),(7,.one (.int .i64))]),(1,8,[(8,.one (.int .u64))]),(1,10,[(5,.one .slice),(6,.one (.int .u64))])] f97 h
def Sh.zigguratref02_Mul (a:Sl) (b:Sl) (R:Value→TW→Prop) (w:TW):Prop:=
bnd (wi ((a.n:Int)+(b.n:Int))) fun n=>
mks w n n T.uint64 8 [.int .u64 0] fun s w1=>
Jn [] (fun J0=>
Lp [.int .i64] (fun (i:Int) w2 C0=>
cond (decide ((i:Int)<(a.n:Int))) (
Jn [.int .u64] (fun J1=>
Lp [.int .u64,.int .i64] (fun (c:Int) (j:Int) w3 C1=>
cond (decide ((j:Int)<(b.n:Int))) (
bnd (wi (i+j)) fun n1=>
ixa s n1 1 fun a1=>
ldc (.int .u64) w3.drew a1 fun (v:Int)=>
ixa a i 1 fun a2=>
ldc (.int .u64) w3.drew a2 fun (v1:Int)=>
ixa b j 1 fun a3=>
ldc (.int .u64) w3.drew a3 fun (v2:Int)=>
bnd (wu (v1*v2)) fun n2=>
bnd (wu (v+n2)) fun n3=>
bnd (wu (n3+c)) fun n4=>
bnd (wi (i+j)) fun n5=>
remK n4 4294967296 fun n6=>
ixa s n5 1 fun a4=>
stc w3.drew a4 (.int .u64 n6) fun w4=>
divK .u64 n4 4294967296 fun n7=>
bnd (wi (j+1)) fun n8=>
C1 n7 n8 w4) (
J1 c w3)) 0 0 w2) fun (c1:Int) w5=>
bnd (wi (i+(b.n:Int))) fun n9=>
ixa s n9 1 fun a5=>
stc w5 a5 (.int .u64 c1) fun w6=>
bnd (wi (i+1)) fun n10=>
C0 n10 w6) (
J0 w2)) 0 w1) fun  w7=>
cl Pg F.zigguratref02_norm [s.v] w7 [.one .slice] fun (s1:Sl) w8=>
R (s1.v) w8
theorem Ct.zigguratref02_Mul {a:Sl} {b:Sl} {w:TW} {X:Nat→Prop} {K:KT [.one .slice]} (h:Sh.zigguratref02_Mul a b (Rt X [.one .slice] K w) w.here):Ct Pg F.zigguratref02_Mul [a.v,b.v] w X [.one .slice] K:=
 cod (Sh.zigguratref02_Mul a b) 64 [] [] [(2,0,[]),(3,3,[(6,.one (.int .i64))]),(2,2,[(7,.one (.int .u64))]),(3,7,[(7,.one (.int .u64)),(8,.one (.int .i64))])] f98 h
def Sh.zigguratref02_To (a:Sl) (R:Value→TW→Prop) (w:TW):Prop:=
Jn [.slice] (fun J0=>
Lp [.slice,.int .i64] (fun (out:Sl) (i:Int) w1 C0=>
cond (decide ((i:Int)<(a.n:Int))) (
ixa a i 1 fun a1=>
ldc (.int .u64) w1 a1 fun (v:Int)=>
bnd (wi (i+1)) fun n=>
Jn [.int .u64] (fun J1=>
cond (decide ((n:Int)<(a.n:Int))) (
bnd (wi (i+1)) fun n1=>
ixa a n1 1 fun a2=>
ldc (.int .u64) w1 a2 fun (v1:Int)=>
bnd (wu (v1*4294967296)) fun n2=>
bnd (wu (v+n2)) fun n3=>
J1 n3 w1) (
J1 v w1)) fun (y:Int) w2=>
nwb w2 [.int .u64 y] T.uint64 fun b w3=>
apd w3 T.uint64 1 8 out ⟨(some ⟨b,0,none⟩),1,1⟩ fun s w4=>
bnd (wi (i+2)) fun n4=>
C0 s n4 w4) (
J0 out w1)) Sl.nil 0 w) fun (out1:Sl) w5=>
Jn [.slice] (fun J2=>
Lp [.slice] (fun (out2:Sl) w6 C1=>
Jn [.bool] (fun J3=>
cond (decide (((out2.n:Int):Int)>0)) (
bnd (wi ((out2.n:Int)-1)) fun n5=>
ixa out2 n5 1 fun a3=>
ldc (.int .u64) w6 a3 fun (v2:Int)=>
J3 ((v2:Int) == 0) w6) (
J3 false w6)) fun (x:Bool) w7=>
cond x (
bnd (wi ((out2.n:Int)-1)) fun n6=>
slc out2 0 n6 1 fun s1=>
C1 s1 w7) (
J2 out2 w7)) out1 w5) fun (out3:Sl) w8=>
R (out3.v) w8
theorem Ct.zigguratref02_To {a:Sl} {w:TW} {X:Nat→Prop} {K:KT [.one .slice]} (h:Sh.zigguratref02_To a (Rt X [.one .slice] K w) w.here):Ct Pg F.zigguratref02_To [a.v] w X [.one .slice] K:=
 cod (Sh.zigguratref02_To a) 51 [] [] [(2,0,[(3,.one .slice)]),(3,3,[(3,.one .slice),(4,.one (.int .i64))]),(1,7,[(5,.one (.int .u64))]),(2,2,[(3,.one .slice)]),(3,9,[(3,.one .slice)]),(0,9,[(44,.one .bool)])] f101 h
def Sh.zigguratref02_Small (y:Int) (R:Value→TW→Prop) (w:TW):Prop:=
nwb w [.int .u64 y] T.uint64 fun b w1=>
cl Pg F.zigguratref02_From [.slice (some ⟨b,0,none⟩) 1 1] w1 [.one .slice] fun (s:Sl) w2=>
R (s.v) w2
theorem Ct.zigguratref02_Small {y:Int} {w:TW} {X:Nat→Prop} {K:KT [.one .slice]} (h:Sh.zigguratref02_Small y (Rt X [.one .slice] K w) w.here):Ct Pg F.zigguratref02_Small [.int .u64 y] w X [.one .slice] K:=
 cod (Sh.zigguratref02_Small y) 6 [] [] [] f115 h
def Sh.zigguratref02_Zero (a:Sl) (R:Value→TW→Prop) (w:TW):Prop:=
R (.bool (((a.n:Int):Int) == 0)) w
theorem Ct.zigguratref02_Zero {a:Sl} {w:TW} {X:Nat→Prop} {K:KT [.one .bool]} (h:Sh.zigguratref02_Zero a (Rt X [.one .bool] K w) w.here):Ct Pg F.zigguratref02_Zero [a.v] w X [.one .bool] K:=
 cod (Sh.zigguratref02_Zero a) 6 [] [] [] f131 h
end Go.Proofs.YtjhfalgmgagdhaaGreatDoor.Zg
end

section
set_option maxRecDepth 100000
namespace Go.Proofs.YtjhfalgmgagdhaaGreatDoor.Zg
open Go.Proofs.Tryz
def Sh.zigguratref17_Add (a0:Sl) (a1:Bool) (b0:Sl) (b1:Bool) (R:Value→TW→Prop) (w:TW):Prop:=
nwv w fun w1=>
nwv w1 fun w2=>
nwv w2 fun w3=>
cond (a1 == b1) (
cl Pg F.zigguratref02_Add [a0.v,b0.v] w3.drew [.one .slice] fun (s:Sl) w4=>
cl Pg F.zigguratref17_made [s.v,.bool a1] w4 [.agg [.slice,.bool]] fun (r:Sl) (r1:Bool) w5=>
nwv w5 fun w6=>
R (.agg #[r.v,.bool r1]) w6) (
cl Pg F.zigguratref02_Cmp [a0.v,b0.v] w3 [.one (.int .i64)] fun (r2:Int) w7=>
cond (decide ((r2:Int)≥0)) (
cl Pg F.zigguratref02_Sub [a0.v,b0.v] w7.drew [.one .slice] fun (s1:Sl) w8=>
cl Pg F.zigguratref17_made [s1.v,.bool a1] w8 [.agg [.slice,.bool]] fun (r3:Sl) (r4:Bool) w9=>
nwv w9 fun w10=>
R (.agg #[r3.v,.bool r4]) w10) (
cl Pg F.zigguratref02_Sub [b0.v,a0.v] w7.drew [.one .slice] fun (s2:Sl) w11=>
cl Pg F.zigguratref17_made [s2.v,.bool b1] w11 [.agg [.slice,.bool]] fun (r5:Sl) (r6:Bool) w12=>
nwv w12 fun w13=>
R (.agg #[r5.v,.bool r6]) w13))
theorem Ct.zigguratref17_Add {a0:Sl} {a1:Bool} {b0:Sl} {b1:Bool} {w:TW} {X:Nat→Prop} {K:KT [.agg [.slice,.bool]]} (h:Sh.zigguratref17_Add a0 a1 b0 b1 (Rt X [.agg [.slice,.bool]] K w) w.here):Ct Pg F.zigguratref17_Add [.agg #[a0.v,.bool a1],.agg #[b0.v,.bool b1]] w X [.agg [.slice,.bool]] K:=
 cod (Sh.zigguratref17_Add a0 a1 b0 b1) 40 [(2,40),(3,42),(4,44)] [(40,2),(42,2),(44,2)] [] f52 h
def Sh.zigguratref17_Mul (a0:Sl) (a1:Bool) (b0:Sl) (b1:Bool) (R:Value→TW→Prop) (w:TW):Prop:=
nwv w fun w1=>
nwv w1 fun w2=>
nwv w2 fun w3=>
cl Pg F.zigguratref02_Mul [a0.v,b0.v] w3.drew [.one .slice] fun (s:Sl) w4=>
cl Pg F.zigguratref17_made [s.v,.bool (!(a1 == b1))] w4 [.agg [.slice,.bool]] fun (r:Sl) (r1:Bool) w5=>
nwv w5 fun w6=>
R (.agg #[r.v,.bool r1]) w6
theorem Ct.zigguratref17_Mul {a0:Sl} {a1:Bool} {b0:Sl} {b1:Bool} {w:TW} {X:Nat→Prop} {K:KT [.agg [.slice,.bool]]} (h:Sh.zigguratref17_Mul a0 a1 b0 b1 (Rt X [.agg [.slice,.bool]] K w) w.here):Ct Pg F.zigguratref17_Mul [.agg #[a0.v,.bool a1],.agg #[b0.v,.bool b1]] w X [.agg [.slice,.bool]] K:=
 cod (Sh.zigguratref17_Mul a0 a1 b0 b1) 16 [(2,16),(3,18),(4,20)] [(16,2),(18,2),(20,2)] [] f53 h
def Sh.zigguratref17_Small (n:Int) (R:Value→TW→Prop) (w:TW):Prop:=
nwv w fun w1=>
cond (decide ((n:Int)<0)) (
bnd (wi (0-n)) fun n1=>
bnd (wu (n1)) fun n2=>
cl Pg F.zigguratref02_Small [.int .u64 n2] w1 [.one .slice] fun (s:Sl) w2=>
cl Pg F.zigguratref17_made [s.v,.bool true] w2 [.agg [.slice,.bool]] fun (r:Sl) (r1:Bool) w3=>
nwv w3 fun w4=>
R (.agg #[r.v,.bool r1]) w4) (
bnd (wu (n)) fun n3=>
cl Pg F.zigguratref02_Small [.int .u64 n3] w1 [.one .slice] fun (s1:Sl) w5=>
cl Pg F.zigguratref17_made [s1.v,.bool false] w5 [.agg [.slice,.bool]] fun (r2:Sl) (r3:Bool) w6=>
nwv w6 fun w7=>
R (.agg #[r2.v,.bool r3]) w7)
theorem Ct.zigguratref17_Small {n:Int} {w:TW} {X:Nat→Prop} {K:KT [.agg [.slice,.bool]]} (h:Sh.zigguratref17_Small n (Rt X [.agg [.slice,.bool]] K w) w.here):Ct Pg F.zigguratref17_Small [.int .i64 n] w X [.agg [.slice,.bool]] K:=
 cod (Sh.zigguratref17_Small n) 14 [(2,14)] [(14,2)] [] f74 h
def Sh.zigguratref17_From (a0:Sl) (a1:Bool) (R:Value→TW→Prop) (w:TW):Prop:=
nwv w fun w1=>
nwv w1 fun w2=>
cl Pg F.zigguratref02_From [a0.v] w2.drew [.one .slice] fun (s:Sl) w3=>
cl Pg F.zigguratref17_made [s.v,.bool a1] w3 [.agg [.slice,.bool]] fun (r:Sl) (r1:Bool) w4=>
nwv w4 fun w5=>
R (.agg #[r.v,.bool r1]) w5
theorem Ct.zigguratref17_From {a0:Sl} {a1:Bool} {w:TW} {X:Nat→Prop} {K:KT [.agg [.slice,.bool]]} (h:Sh.zigguratref17_From a0 a1 (Rt X [.agg [.slice,.bool]] K w) w.here):Ct Pg F.zigguratref17_From [.agg #[a0.v,.bool a1]] w X [.agg [.slice,.bool]] K:=
 cod (Sh.zigguratref17_From a0 a1) 9 [(1,9),(2,11)] [(9,2),(11,2)] [] f93 h
def Sh.zigguratref17_made (n:Sl) (neg:Bool) (R:Value→TW→Prop) (w:TW):Prop:=
nwv w fun w1=>
Jn [.slice,.bool] (fun J0=>
cond neg (
cl Pg F.zigguratref02_Zero [n.v] w1 [.one .bool] fun (ok:Bool) w2=>
nwv w2 fun w3=>
J0 n (!ok) w3) (
nwv w1 fun w4=>
J0 n false w4)) fun (x:Sl) (x1:Bool) w5=>
R (.agg #[x.v,.bool x1]) w5
theorem Ct.zigguratref17_made {n:Sl} {neg:Bool} {w:TW} {X:Nat→Prop} {K:KT [.agg [.slice,.bool]]} (h:Sh.zigguratref17_made n neg (Rt X [.agg [.slice,.bool]] K w) w.here):Ct Pg F.zigguratref17_made [n.v,.bool neg] w X [.agg [.slice,.bool]] K:=
 cod (Sh.zigguratref17_made n neg) 13 [(4,13)] [(13,2)] [(0,1,[(13,.one .slice),(14,.one .bool)])] f95 h
def Sh.zigguratref17_Zero (a0:Sl) (a1:Bool) (R:Value→TW→Prop) (w:TW):Prop:=
nwv w fun w1=>
cl Pg F.zigguratref02_Zero [a0.v] w1 [.one .bool] fun (ok:Bool) w2=>
R (.bool ok) w2
theorem Ct.zigguratref17_Zero {a0:Sl} {a1:Bool} {w:TW} {X:Nat→Prop} {K:KT [.one .bool]} (h:Sh.zigguratref17_Zero a0 a1 (Rt X [.one .bool] K w) w.here):Ct Pg F.zigguratref17_Zero [.agg #[a0.v,.bool a1]] w X [.one .bool] K:=
 cod (Sh.zigguratref17_Zero a0 a1) 6 [(1,6)] [(6,2)] [] f99 h
def Sh.zigguratref17_To (a0:Sl) (a1:Bool) (R:Value→TW→Prop) (w:TW):Prop:=
nwv w fun w1=>
nwv w1 fun w2=>
cl Pg F.zigguratref02_To [a0.v] w2.drew [.one .slice] fun (s:Sl) w3=>
nwv w3 fun w4=>
R (.agg #[s.v,.bool a1]) w4
theorem Ct.zigguratref17_To {a0:Sl} {a1:Bool} {w:TW} {X:Nat→Prop} {K:KT [.agg [.slice,.bool]]} (h:Sh.zigguratref17_To a0 a1 (Rt X [.agg [.slice,.bool]] K w) w.here):Ct Pg F.zigguratref17_To [.agg #[a0.v,.bool a1]] w X [.agg [.slice,.bool]] K:=
 cod (Sh.zigguratref17_To a0 a1) 9 [(1,9),(2,11)] [(9,2),(11,2)] [] f100 h
end Go.Proofs.YtjhfalgmgagdhaaGreatDoor.Zg
end

section
set_option maxRecDepth 100000
namespace Go.Proofs.YtjhfalgmgagdhaaGreatDoor.Zg
open Go.Proofs.Tryz
def Sh.zigguratref28_Mul (a:Sl) (b:Sl) (R:Value→TW→Prop) (w:TW):Prop:=
Jn [.bool] (fun J0=>
cond (((a.n:Int):Int) == 0) (
J0 true w) (
J0 (((b.n:Int):Int) == 0) w)) fun (x:Bool) w1=>
cond x (
R (.slice none 0 0) w1) (
bnd (wi ((a.n:Int)+(b.n:Int))) fun n=>
bnd (wi (n-1)) fun n1=>
mks w1 n1 n1 T.zigguratref17_I 32 [.slice none 0 0,.bool false] fun s w2=>
Jn [] (fun J1=>
Lp [.int .i64] (fun (i:Int) w3 C0=>
cond (decide ((i:Int)<(a.n:Int))) (
Jn [] (fun J2=>
Lp [.int .i64] (fun (j:Int) w4 C1=>
cond (decide ((j:Int)<(b.n:Int))) (
bnd (wi (i+j)) fun n2=>
bnd (wi (i+j)) fun n3=>
ixa s n3 2 fun a1=>
ldc (.slice) w4.drew (a1.add 0) fun (v:Sl)=>
ldc (.bool) w4.drew (a1.add 1) fun (v1:Bool)=>
ixa a i 2 fun a2=>
ldc (.slice) w4.drew (a2.add 0) fun (v2:Sl)=>
ldc (.bool) w4.drew (a2.add 1) fun (v3:Bool)=>
ixa b j 2 fun a3=>
ldc (.slice) w4.drew (a3.add 0) fun (v4:Sl)=>
ldc (.bool) w4.drew (a3.add 1) fun (v5:Bool)=>
cl Pg F.zigguratref17_Mul [.agg #[v2.v,.bool v3],.agg #[v4.v,.bool v5]] w4.drew [.agg [.slice,.bool]] fun (r:Sl) (r1:Bool) w5=>
hld w5 [(a1.add 0,v.v),(a1.add 1,.bool v1)] <|
cl Pg F.zigguratref17_Add [.agg #[v.v,.bool v1],.agg #[r.v,.bool r1]] w5 [.agg [.slice,.bool]] fun (r2:Sl) (r3:Bool) w6=>
ixa s n2 2 fun a4=>
stc w6 a4 r2.v fun w7=>
stc w7 (a4.add 1) (.bool r3) fun w8=>
bnd (wi (j+1)) fun n4=>
C1 n4 w8) (
J2 w4)) 0 w3) fun  w9=>
bnd (wi (i+1)) fun n5=>
C0 n5 w9) (
J1 w3)) 0 w2) fun  w10=>
cl Pg F.zigguratref28_norm [s.v] w10 [.one .slice] fun (s1:Sl) w11=>
R (s1.v) w11)
theorem Ct.zigguratref28_Mul {a:Sl} {b:Sl} {w:TW} {X:Nat→Prop} {K:KT [.one .slice]} (h:Sh.zigguratref28_Mul a b (Rt X [.one .slice] K w) w.here):Ct Pg F.zigguratref28_Mul [a.v,b.v] w X [.one .slice] K:=
 cod (Sh.zigguratref28_Mul a b) 58 [] [] [(0,1,[(15,.one .bool)]),(2,0,[]),(3,5,[(6,.one (.int .i64))]),(2,2,[]),(3,8,[(7,.one (.int .i64))])] f19 h
def Sh.zigguratref28_Same (a:Sl) (b:Sl) (R:Value→TW→Prop) (w:TW):Prop:=
cl Pg F.zigguratref28_To [a.v] w [.one .slice] fun (s:Sl) w1=>
cond (((s.n:Int):Int) != (b.n:Int)) (
R (.bool false) w1) (
Jn [] (fun J0=>
Lp [.int .i64] (fun (i:Int) w2 C0=>
cond (decide ((i:Int)<(s.n:Int))) (
Jn [.bool] (fun J1=>
ixa s i 2 fun a1=>
ldc (.bool) w2.drew (a1.add 1) fun (v:Bool)=>
ixa b i 2 fun a2=>
ldc (.bool) w2.drew (a2.add 1) fun (v1:Bool)=>
cond (!(v == v1)) (
J1 true w2.drew) (
ixa a i 2 fun a3=>
ldc (.slice) w2.drew a3 fun (v2:Sl)=>
ixa b i 2 fun a4=>
ldc (.slice) w2.drew a4 fun (v3:Sl)=>
cl Pg F.zigguratref02_Same [v2.v,v3.v] w2.drew [.one .bool] fun (ok:Bool) w3=>
hld w3 [((a2.add 1),.bool v1),((a1.add 1),.bool v)] <|
J1 (!ok) w3)) fun (x:Bool) w4=>
cond x (
R (.bool false) w4) (
bnd (wi (i+1)) fun n=>
C0 n w4)) (
J0 w2)) 0 w1) fun  w5=>
R (.bool true) w5)
theorem Ct.zigguratref28_Same {a:Sl} {b:Sl} {w:TW} {X:Nat→Prop} {K:KT [.one .bool]} (h:Sh.zigguratref28_Same a b (Rt X [.one .bool] K w) w.here):Ct Pg F.zigguratref28_Same [a.v,b.v] w X [.one .bool] K:=
 cod (Sh.zigguratref28_Same a b) 45 [] [] [(2,0,[]),(3,5,[(6,.one (.int .i64))]),(0,7,[(44,.one .bool)])] f20 h
def Sh.zigguratref28_Height (a:Sl) (R:Value→TW→Prop) (w:TW):Prop:=
Jn [.int .i64] (fun J0=>
Lp [.int .i64,.int .i64] (fun (n:Int) (i:Int) w1 C0=>
cond (decide ((i:Int)<(a.n:Int))) (
ixa a i 2 fun a1=>
ldc (.slice) w1 a1 fun (v:Sl)=>
cl Pg F.zigguratref02_Bits [v.v] w1 [.one (.int .i64)] fun (r:Int) w2=>
bnd (if (r:Int)>n then r else n) fun n1=>
bnd (wi (i+1)) fun n2=>
C0 n1 n2 w2) (
J0 n w1)) 0 0 w) fun (n3:Int) w3=>
R (.int .i64 n3) w3
theorem Ct.zigguratref28_Height {a:Sl} {w:TW} {X:Nat→Prop} {K:KT [.one (.int .i64)]} (h:Sh.zigguratref28_Height a (Rt X [.one (.int .i64)] K w) w.here):Ct Pg F.zigguratref28_Height [a.v] w X [.one (.int .i64)] K:=
 cod (Sh.zigguratref28_Height a) 20 [] [] [(2,0,[(3,.one (.int .i64))]),(3,3,[(3,.one (.int .i64)),(4,.one (.int .i64))])] f25 h
def Sh.zigguratref28_Pow (a:Sl) (n:Int) (R:Value→TW→Prop) (w:TW):Prop:=
cl Pg F.zigguratref17_Small [.int .i64 1] w [.agg [.slice,.bool]] fun (r:Sl) (r1:Bool) w1=>
nwb w1 [r.v,.bool r1] T.zigguratref17_I fun b w2=>
Jn [.slice] (fun J0=>
Lp [.slice,.int .i64] (fun (out:Sl) (i:Int) w3 C0=>
cond (decide ((i:Int)<n)) (
cl Pg F.zigguratref28_Mul [out.v,a.v] w3 [.one .slice] fun (s:Sl) w4=>
bnd (wi (i+1)) fun n1=>
C0 s n1 w4) (
J0 out w3)) ⟨(some ⟨b,0,none⟩),1,1⟩ 0 w2) fun (out1:Sl) w5=>
R (out1.v) w5
theorem Ct.zigguratref28_Pow {a:Sl} {n:Int} {w:TW} {X:Nat→Prop} {K:KT [.one .slice]} (h:Sh.zigguratref28_Pow a n (Rt X [.one .slice] K w) w.here):Ct Pg F.zigguratref28_Pow [a.v,.int .i64 n] w X [.one .slice] K:=
 cod (Sh.zigguratref28_Pow a n) 18 [] [] [(2,0,[(5,.one .slice)]),(3,3,[(5,.one .slice),(6,.one (.int .i64))])] f34 h
def Sh.zigguratref28_From (a:Sl) (R:Value→TW→Prop) (w:TW):Prop:=
Jn [.slice] (fun J0=>
Lp [.slice,.int .i64] (fun (out:Sl) (i:Int) w1 C0=>
cond (decide ((i:Int)<(a.n:Int))) (
ixa a i 2 fun a1=>
ldc (.slice) w1 (a1.add 0) fun (v:Sl)=>
ldc (.bool) w1 (a1.add 1) fun (v1:Bool)=>
cl Pg F.zigguratref17_From [.agg #[v.v,.bool v1]] w1 [.agg [.slice,.bool]] fun (r:Sl) (r1:Bool) w2=>
nwb w2 [r.v,.bool r1] T.zigguratref17_I fun b w3=>
apd w3 T.zigguratref17_I 2 32 out ⟨(some ⟨b,0,none⟩),1,1⟩ fun s w4=>
bnd (wi (i+1)) fun n=>
C0 s n w4) (
J0 out w1)) Sl.nil 0 w) fun (out1:Sl) w5=>
cl Pg F.zigguratref28_norm [out1.v] w5 [.one .slice] fun (s1:Sl) w6=>
R (s1.v) w6
theorem Ct.zigguratref28_From {a:Sl} {w:TW} {X:Nat→Prop} {K:KT [.one .slice]} (h:Sh.zigguratref28_From a (Rt X [.one .slice] K w) w.here):Ct Pg F.zigguratref28_From [a.v] w X [.one .slice] K:=
 cod (Sh.zigguratref28_From a) 21 [] [] [(2,0,[(3,.one .slice)]),(3,3,[(3,.one .slice),(4,.one (.int .i64))])] f49 h
def Sh.zigguratref28_norm (a:Sl) (R:Value→TW→Prop) (w:TW):Prop:=
Jn [.int .i64] (fun J0=>
Lp [.int .i64] (fun (k:Int) w1 C0=>
Jn [.bool] (fun J1=>
cond (decide ((k:Int)>0)) (
bnd (wi (k-1)) fun n=>
ixa a n 2 fun a1=>
ldc (.slice) w1 (a1.add 0) fun (v:Sl)=>
ldc (.bool) w1 (a1.add 1) fun (v1:Bool)=>
cl Pg F.zigguratref17_Zero [.agg #[v.v,.bool v1]] w1 [.one .bool] fun (ok:Bool) w2=>
J1 ok w2) (
J1 false w1)) fun (x:Bool) w3=>
cond x (
bnd (wi (k-1)) fun n1=>
C0 n1 w3) (
J0 k w3)) (a.n:Int) w) fun (k1:Int) w4=>
slc a 0 k1 2 fun s=>
R (s.v) w4
theorem Ct.zigguratref28_norm {a:Sl} {w:TW} {X:Nat→Prop} {K:KT [.one .slice]} (h:Sh.zigguratref28_norm a (Rt X [.one .slice] K w) w.here):Ct Pg F.zigguratref28_norm [a.v] w X [.one .slice] K:=
 cod (Sh.zigguratref28_norm a) 21 [] [] [(2,0,[(3,.one (.int .i64))]),(3,2,[(3,.one (.int .i64))]),(0,2,[(15,.one .bool)])] f54 h
def Sh.zigguratref28_To (a:Sl) (R:Value→TW→Prop) (w:TW):Prop:=
Jn [.slice] (fun J0=>
Lp [.slice,.int .i64] (fun (out:Sl) (i:Int) w1 C0=>
cond (decide ((i:Int)<(a.n:Int))) (
ixa a i 2 fun a1=>
ldc (.slice) w1 (a1.add 0) fun (v:Sl)=>
ldc (.bool) w1 (a1.add 1) fun (v1:Bool)=>
cl Pg F.zigguratref17_To [.agg #[v.v,.bool v1]] w1 [.agg [.slice,.bool]] fun (r:Sl) (r1:Bool) w2=>
nwb w2 [r.v,.bool r1] T.api_Int fun b w3=>
apd w3 T.api_Int 2 32 out ⟨(some ⟨b,0,none⟩),1,1⟩ fun s w4=>
bnd (wi (i+1)) fun n=>
C0 s n w4) (
J0 out w1)) Sl.nil 0 w) fun (out1:Sl) w5=>
R (out1.v) w5
theorem Ct.zigguratref28_To {a:Sl} {w:TW} {X:Nat→Prop} {K:KT [.one .slice]} (h:Sh.zigguratref28_To a (Rt X [.one .slice] K w) w.here):Ct Pg F.zigguratref28_To [a.v] w X [.one .slice] K:=
 cod (Sh.zigguratref28_To a) 20 [] [] [(2,0,[(3,.one .slice)]),(3,3,[(3,.one .slice),(4,.one (.int .i64))])] f55 h
end Go.Proofs.YtjhfalgmgagdhaaGreatDoor.Zg
end

section
set_option maxRecDepth 100000
namespace Go.Proofs.YtjhfalgmgagdhaaGreatDoor.Zg
open Go.Proofs.Tryz
def Sh.zmul_New (t:HL I11) (R:Value→TW→Prop) (w:TW):Prop:=
nwv w fun w1=>
cl Pg F.polyz_New [.agg (encs I11 t).toArray] w1 [.one .ptr] fun (p:Option Addr) w2=>
nwb w2 [.pointer p] T.zmul_Engine fun b w3=>
R (.pointer (some ⟨b,0,none⟩)) w3
theorem Ct.zmul_New {t:HL I11} {w:TW} {X:Nat→Prop} {K:KT [.one .ptr]} (h:Sh.zmul_New t (Rt X [.one .ptr] K w) w.here):Ct Pg F.zmul_New [.agg (encs I11 t).toArray] w X [.one .ptr] K:=
 cod (Sh.zmul_New t) 7 [(1,7)] [(7,11)] [] f17 h
def Sh.zmul_Engine_Times (e0:Option Addr) (a:Sl) (b:Sl) (R:Value→TW→Prop) (w:TW):Prop:=
cl Pg F.polyz_Deg [a.v] w [.one (.int .i64)] fun (r:Int) w1=>
cl Pg F.polyz_Deg [b.v] w1 [.one (.int .i64)] fun (r1:Int) w2=>
bnd (if (r1:Int)<r then r1 else r) fun n=>
bnd (wi (n+1)) fun n1=>
nck e0 fun a1=>
ldc (.ptr) w2 a1 fun (v:Option Addr)=>
nck v fun a2=>
ldc (.ptr) w2 a2 fun (v1:Option Addr)=>
nck v1 fun a3=>
ldc (.ptr) w2 a3 fun (v2:Option Addr)=>
nck v2 fun a4=>
ldc (.ptr) w2 a4 fun (v3:Option Addr)=>
nck v3 fun a5=>
ldc (.ptr) w2 a5 fun (v4:Option Addr)=>
nck v4 fun a6=>
ldc (.ptr) w2 a6 fun (v5:Option Addr)=>
nck v5 fun a7=>
ldc (.ptr) w2 a7 fun (v6:Option Addr)=>
nck v6 fun a8=>
ldc (.ptr) w2 a8 fun (v7:Option Addr)=>
nck v7 fun a9=>
ldc (.ptr) w2 a9 fun (v8:Option Addr)=>
nck v8 fun a10=>
ldc (.ptr) w2 a10 fun (v9:Option Addr)=>
nck v9 fun a11=>
ldc (.ptr) w2 a11 fun (v10:Option Addr)=>
nck v10 fun a12=>
ldc (.ptr) w2 a12 fun (v11:Option Addr)=>
nck v11 fun a13=>
ldc (.ptr) w2 a13 fun (v12:Option Addr)=>
nck v12 fun a14=>
ldc (.ptr) w2 a14 fun (v13:Option Addr)=>
nck v13 fun a15=>
ldc (.ptr) w2 a15 fun (v14:Option Addr)=>
nck v14 fun a16=>
ldc (.ptr) w2 a16 fun (v15:Option Addr)=>
nck v15 fun a17=>
ldc (.int .i64) w2 ((a17.add 3).add 7) fun (v16:Int)=>
cond (decide ((n1:Int)<v16)) (
nck e0 fun a18=>
ldc (.ptr) w2 a18 fun (v17:Option Addr)=>
cl Pg F.polyz_Engine_Hand [.pointer v17,a.v,b.v] w2 [.one .slice] fun (s:Sl) w3=>
R (s.v) w3) (
nck e0 fun a19=>
ldc (.ptr) w2 a19 fun (v18:Option Addr)=>
nck v18 fun a20=>
ldc (.ptr) w2 a20 fun (v19:Option Addr)=>
nck v19 fun a21=>
ldc (.ptr) w2 a21 fun (v20:Option Addr)=>
nck v20 fun a22=>
ldc (.ptr) w2 a22 fun (v21:Option Addr)=>
nck v21 fun a23=>
ldc (.ptr) w2 a23 fun (v22:Option Addr)=>
nck v22 fun a24=>
ldc (.ptr) w2 a24 fun (v23:Option Addr)=>
nck v23 fun a25=>
ldc (.ptr) w2 a25 fun (v24:Option Addr)=>
nck v24 fun a26=>
ldc (.ptr) w2 a26 fun (v25:Option Addr)=>
nck v25 fun a27=>
ldc (.ptr) w2 a27 fun (v26:Option Addr)=>
nck v26 fun a28=>
ldc (.ptr) w2 a28 fun (v27:Option Addr)=>
nck v27 fun a29=>
ldc (.ptr) w2 a29 fun (v28:Option Addr)=>
nck v28 fun a30=>
ldc (.ptr) w2 a30 fun (v29:Option Addr)=>
nck v29 fun a31=>
ldc (.ptr) w2 a31 fun (v30:Option Addr)=>
nck v30 fun a32=>
ldc (.ptr) w2 a32 fun (v31:Option Addr)=>
nck v31 fun a33=>
ldc (.ptr) w2 a33 fun (v32:Option Addr)=>
nck v32 fun a34=>
ldc (.ptr) w2 a34 fun (v33:Option Addr)=>
nck v33 fun a35=>
ldc (.int .i64) w2 ((a35.add 3).add 8) fun (v34:Int)=>
cond (decide ((n1:Int)<v34)) (
cl Pg F.zmul_Engine_Kron [.pointer e0,a.v,b.v] w2 [.one .slice] fun (s1:Sl) w4=>
R (s1.v) w4) (
cl Pg F.zmul_Engine_Many [.pointer e0,a.v,b.v] w2 [.one .slice] fun (s2:Sl) w5=>
R (s2.v) w5))
theorem Ct.zmul_Engine_Times {e0:Option Addr} {a:Sl} {b:Sl} {w:TW} {X:Nat→Prop} {K:KT [.one .slice]} (h:Sh.zmul_Engine_Times e0 a b (Rt X [.one .slice] K w) w.here):Ct Pg F.zmul_Engine_Times [.pointer e0,a.v,b.v] w X [.one .slice] K:=
 cod (Sh.zmul_Engine_Times e0 a b) 141 [] [] [] f21 h
def Sh.zmul_Engine_Kron (e0:Option Addr) (a:Sl) (b:Sl) (R:Value→TW→Prop) (w:TW):Prop:=
cl Pg F.polyz_Norm [a.v] w [.one .slice] fun (s:Sl) w1=>
cl Pg F.polyz_Norm [b.v] w1 [.one .slice] fun (s1:Sl) w2=>
Jn [.bool] (fun J0=>
cond (((s.n:Int):Int) == 0) (
J0 true w2) (
J0 (((s1.n:Int):Int) == 0) w2)) fun (x:Bool) w3=>
cond x (
R (.slice none 0 0) w3) (
cl Pg F.zmul_Engine_Bound [.pointer e0,s.v,s1.v] w3 [.one (.int .i64)] fun (r:Int) w4=>
bnd (wi (r+2)) fun n=>
cond (decide ((n:Int)>1048576)) (
nck e0 fun a1=>
ldc (.ptr) w4 a1 fun (v:Option Addr)=>
cl Pg F.polyz_Engine_Hand [.pointer v,s.v,s1.v] w4 [.one .slice] fun (s2:Sl) w5=>
R (s2.v) w5) (
cl Pg F.zmul_half [s.v,.int .i64 n] w4 [.agg [.slice,.bool]] fun (r1:Sl) (r2:Bool) w6=>
cl Pg F.zmul_half [s1.v,.int .i64 n] w6 [.agg [.slice,.bool]] fun (r3:Sl) (r4:Bool) w7=>
nwv w7 fun w8=>
nwv w8 fun w9=>
nwv w9 fun w10=>
nwv w10 fun w11=>
nck e0 fun a2=>
ldc (.ptr) w11.drew a2 fun (v1:Option Addr)=>
nck v1 fun a3=>
ldc (.ptr) w11.drew a3 fun (v2:Option Addr)=>
nck v2 fun a4=>
ldc (.ptr) w11.drew a4 fun (v3:Option Addr)=>
nck v3 fun a5=>
ldc (.ptr) w11.drew a5 fun (v4:Option Addr)=>
nck v4 fun a6=>
ldc (.ptr) w11.drew a6 fun (v5:Option Addr)=>
nck v5 fun a7=>
ldc (.ptr) w11.drew a7 fun (v6:Option Addr)=>
nck v6 fun a8=>
ldc (.ptr) w11.drew a8 fun (v7:Option Addr)=>
nck v7 fun a9=>
ldc (.ptr) w11.drew a9 fun (v8:Option Addr)=>
nck v8 fun a10=>
ldc (.ptr) w11.drew a10 fun (v9:Option Addr)=>
nck v9 fun a11=>
ldc (.ptr) w11.drew a11 fun (v10:Option Addr)=>
nck v10 fun a12=>
ldc (.ptr) w11.drew a12 fun (v11:Option Addr)=>
nck v11 fun a13=>
ldc (.ptr) w11.drew a13 fun (v12:Option Addr)=>
cl Pg F.mul_Engine_Mul [.pointer v12,r1.v,r3.v] w11.drew [.one .slice] fun (s3:Sl) w12=>
hld w12 [(a12,.pointer v11),(a11,.pointer v10),(a10,.pointer v9),(a9,.pointer v8),(a8,.pointer v7),(a7,.pointer v6),(a6,.pointer v5),(a5,.pointer v4),(a4,.pointer v3),(a3,.pointer v2),(a2,.pointer v1)] <|
cl Pg F.num_Norm [.agg #[s3.v,.bool (!(r2 == r4))]] w12 [.agg [.slice,.bool]] fun (r5:Sl) (r6:Bool) w13=>
cl Pg F.zmul_unpacked [.agg #[r5.v,.bool r6],.int .i64 n] w13 [.one .slice] fun (s4:Sl) w14=>
R (s4.v) w14))
theorem Ct.zmul_Engine_Kron {e0:Option Addr} {a:Sl} {b:Sl} {w:TW} {X:Nat→Prop} {K:KT [.one .slice]} (h:Sh.zmul_Engine_Kron e0 a b (Rt X [.one .slice] K w) w.here):Ct Pg F.zmul_Engine_Kron [.pointer e0,a.v,b.v] w X [.one .slice] K:=
 cod (Sh.zmul_Engine_Kron e0 a b) 95 [(8,95),(9,97)] [(95,2),(97,2)] [(0,2,[(22,.one .bool)])] f22 h
def Sh.zmul_Engine_Many (e0:Option Addr) (a:Sl) (b:Sl) (R:Value→TW→Prop) (w:TW):Prop:=
cl Pg F.polyz_Norm [a.v] w [.one .slice] fun (s:Sl) w1=>
cl Pg F.polyz_Norm [b.v] w1 [.one .slice] fun (s1:Sl) w2=>
Jn [.bool] (fun J0=>
cond (((s.n:Int):Int) == 0) (
J0 true w2) (
J0 (((s1.n:Int):Int) == 0) w2)) fun (x:Bool) w3=>
cond x (
R (.slice none 0 0) w3) (
bnd (wi ((s.n:Int)+(s1.n:Int))) fun n=>
bnd (wi (n-1)) fun n1=>
mks w3 n1 n1 T.api_Pair 48 [.slice none 0 0,.slice none 0 0] fun s2 w4=>
cl Pg F.limb_One [.int .u64 1] w4 [.one .slice] fun (s3:Sl) w5=>
Jn [.slice] (fun J1=>
Lp [.slice,.int .u64] (fun (m:Sl) (p:Int) w6 C0=>
cl Pg F.api_Nat_Bits [m.v] w6 [.one (.int .i64)] fun (r:Int) w7=>
cl Pg F.zmul_Engine_Bound [.pointer e0,s.v,s1.v] w7 [.one (.int .i64)] fun (r1:Int) w8=>
bnd (wi (r1+2)) fun n2=>
cond (decide ((r:Int)<n2)) (
cl Pg F.zmul_before [.int .u64 p] w8 [.one (.int .u64)] fun (r2:Int) w9=>
cl Pg F.zmul_Engine_modulo [.pointer e0,s.v,s1.v,.int .u64 r2] w9 [.one .slice] fun (s4:Sl) w10=>
cl Pg F.zmul_Engine_more [.pointer e0,s2.v,m.v,s4.v,.int .u64 r2] w10 [] fun w11=>
cl Pg F.limb_MulWord [m.v,.int .u64 r2] w11 [.one .slice] fun (s5:Sl) w12=>
C0 s5 r2 w12) (
J1 m w8)) s3 4611686018427387904 w5) fun (m1:Sl) w13=>
mks w13 (s2.n:Int) (s2.n:Int) T.api_Int 32 [.slice none 0 0,.bool false] fun s6 w14=>
Jn [] (fun J2=>
Lp [.int .i64] (fun (x1:Int) w15 C1=>
cond (decide ((x1:Int)<(s2.n:Int))) (
ixa s2 x1 2 fun a1=>
ldc (.slice) w15 (a1.add 0) fun (v:Sl)=>
ldc (.slice) w15 (a1.add 1) fun (_:Sl)=>
nwv w15 fun w16=>
nwv w16 fun w17=>
nck e0 fun a2=>
ldc (.ptr) w17.drew a2 fun (v2:Option Addr)=>
nck v2 fun a3=>
ldc (.ptr) w17.drew a3 fun (v3:Option Addr)=>
cl Pg F.modn_Engine_Signed [.pointer v3,.agg #[v.v,m1.v]] w17.drew [.agg [.slice,.bool],.one (.int .i64)] fun (r3:Sl) (r4:Bool) (_:Int) w18=>
hld w18 [(a2,.pointer v2)] <|
ixa s6 x1 2 fun a4=>
stc w18 a4 r3.v fun w19=>
stc w19 (a4.add 1) (.bool r4) fun w20=>
bnd (wi (x1+1)) fun n3=>
C1 n3 w20) (
J2 w15)) 0 w14) fun  w21=>
cl Pg F.polyz_Norm [s6.v] w21 [.one .slice] fun (s7:Sl) w22=>
R (s7.v) w22)
theorem Ct.zmul_Engine_Many {e0:Option Addr} {a:Sl} {b:Sl} {w:TW} {X:Nat→Prop} {K:KT [.one .slice]} (h:Sh.zmul_Engine_Many e0 a b (Rt X [.one .slice] K w) w.here):Ct Pg F.zmul_Engine_Many [.pointer e0,a.v,b.v] w X [.one .slice] K:=
 cod (Sh.zmul_Engine_Many e0 a b) 89 [(13,89)] [(89,2)] [(0,2,[(25,.one .bool)]),(2,0,[(8,.one .slice)]),(3,7,[(8,.one .slice),(9,.one (.int .u64))]),(2,2,[]),(3,14,[(63,.one (.int .i64))])] f23 h
def Sh.zmul_Engine_Bound (e0:Option Addr) (a:Sl) (b:Sl) (R:Value→TW→Prop) (w:TW):Prop:=
cl Pg F.polyz_Norm [a.v] w [.one .slice] fun (s:Sl) w1=>
cl Pg F.polyz_Norm [b.v] w1 [.one .slice] fun (s1:Sl) w2=>
Jn [.bool] (fun J0=>
cond (((s.n:Int):Int) == 0) (
J0 true w2) (
J0 (((s1.n:Int):Int) == 0) w2)) fun (x:Bool) w3=>
cond x (
R (.int .i64 0) w3) (
cl Pg F.polyz_Height [s.v] w3 [.one (.int .i64)] fun (r:Int) w4=>
cl Pg F.polyz_Height [s1.v] w4 [.one (.int .i64)] fun (r1:Int) w5=>
bnd (wi (r+r1)) fun n=>
bnd (if ((s1.n:Int):Int)<(s.n:Int) then (s1.n:Int) else (s.n:Int)) fun n1=>
bnd (wu (n1)) fun n2=>
cl Pg F.bits_Len [.int .u64 n2] w5 [.one (.int .i64)] fun (r2:Int) w6=>
bnd (wi (n+r2)) fun n3=>
R (.int .i64 n3) w6)
theorem Ct.zmul_Engine_Bound {e0:Option Addr} {a:Sl} {b:Sl} {w:TW} {X:Nat→Prop} {K:KT [.one (.int .i64)]} (h:Sh.zmul_Engine_Bound e0 a b (Rt X [.one (.int .i64)] K w) w.here):Ct Pg F.zmul_Engine_Bound [.pointer e0,a.v,b.v] w X [.one (.int .i64)] K:=
 cod (Sh.zmul_Engine_Bound e0 a b) 32 [] [] [(0,2,[(18,.one .bool)])] f26 h
def Sh.zmul_Engine_All (e0:Option Addr) (l:Sl) (R:Value→TW→Prop) (w:TW):Prop:=
cond (((l.n:Int):Int) == 0) (
cl Pg F.num_Of [.int .i64 1] w [.agg [.slice,.bool]] fun (r:Sl) (r1:Bool) w1=>
nwb w1 [r.v,.bool r1] T.api_Int fun b w2=>
R (.slice (some ⟨b,0,none⟩) 1 1) w2) (
cond (((l.n:Int):Int) == 1) (
ixa l 0 1 fun a=>
ldc (.slice) w a fun (v:Sl)=>
cl Pg F.polyz_Norm [v.v] w [.one .slice] fun (s:Sl) w3=>
R (s.v) w3) (
divK .i64 (l.n:Int) 2 fun n=>
slc l 0 n 1 fun s1=>
slc l n (l.n:Nat) 1 fun s2=>
cl Pg F.zmul_Engine_All [.pointer e0,s1.v] w.drew [.one .slice] fun (s3:Sl) w4=>
cl Pg F.zmul_Engine_All [.pointer e0,s2.v] w4 [.one .slice] fun (s4:Sl) w5=>
cl Pg F.zmul_Engine_Times [.pointer e0,s3.v,s4.v] w5 [.one .slice] fun (s5:Sl) w6=>
R (s5.v) w6))
theorem Ct.zmul_Engine_All {e0:Option Addr} {l:Sl} {w:TW} {X:Nat→Prop} {K:KT [.one .slice]} (h:Sh.zmul_Engine_All e0 l (Rt X [.one .slice] K w) w.here):Ct Pg F.zmul_Engine_All [.pointer e0,l.v] w X [.one .slice] K:=
 cod (Sh.zmul_Engine_All e0 l) 33 [] [] [] f33 h
def Sh.zmul_Engine_Pow (e0:Option Addr) (a:Sl) (n:Int) (R:Value→TW→Prop) (w:TW):Prop:=
cl Pg F.num_Of [.int .i64 1] w [.agg [.slice,.bool]] fun (r:Sl) (r1:Bool) w1=>
nwb w1 [r.v,.bool r1] T.api_Int fun b w2=>
cl Pg F.polyz_Norm [a.v] w2 [.one .slice] fun (s:Sl) w3=>
bnd (if (64:Int)<n then 64 else n) fun n1=>
bnd (if (n1:Int)>0 then n1 else 0) fun n2=>
Jn [.slice] (fun J0=>
Lp [.slice,.int .i64,.slice] (fun (a1:Sl) (n3:Int) (out:Sl) w4 C0=>
cond (decide ((n3:Int)>0)) (
remK n3 2 fun n4=>
Jn [.slice] (fun J1=>
cond ((n4:Int) == 1) (
cl Pg F.zmul_Engine_Times [.pointer e0,out.v,a1.v] w4 [.one .slice] fun (s1:Sl) w5=>
J1 s1 w5) (
J1 out w4)) fun (out1:Sl) w6=>
Jn [.slice] (fun J2=>
cond (decide ((n3:Int)>1)) (
cl Pg F.zmul_Engine_Times [.pointer e0,a1.v,a1.v] w6 [.one .slice] fun (s2:Sl) w7=>
J2 s2 w7) (
J2 a1 w6)) fun (a2:Sl) w8=>
divK .i64 n3 2 fun n5=>
C0 a2 n5 out1 w8) (
J0 out w4)) s n2 ⟨(some ⟨b,0,none⟩),1,1⟩ w3) fun (out2:Sl) w9=>
R (out2.v) w9
theorem Ct.zmul_Engine_Pow {e0:Option Addr} {a:Sl} {n:Int} {w:TW} {X:Nat→Prop} {K:KT [.one .slice]} (h:Sh.zmul_Engine_Pow e0 a n (Rt X [.one .slice] K w) w.here):Ct Pg F.zmul_Engine_Pow [.pointer e0,a.v,.int .i64 n] w X [.one .slice] K:=
 cod (Sh.zmul_Engine_Pow e0 a n) 33 [] [] [(2,0,[(7,.one .slice)]),(3,4,[(1,.one .slice),(2,.one (.int .i64)),(7,.one .slice)]),(1,7,[(7,.one .slice)]),(1,9,[(1,.one .slice)])] f35 h
def Sh.zmul_half (a:Sl) (k:Int) (R:Value→TW→Prop) (w:TW):Prop:=
nwv w fun w1=>
cond (((a.n:Int):Int) == 0) (
nwv w1 fun w2=>
R (.agg #[.slice none 0 0,.bool false]) w2) (
cond (((a.n:Int):Int) == 1) (
ixa a 0 2 fun a1=>
ldc (.slice) w1 (a1.add 0) fun (v:Sl)=>
ldc (.bool) w1 (a1.add 1) fun (v1:Bool)=>
cl Pg F.num_Norm [.agg #[v.v,.bool v1]] w1 [.agg [.slice,.bool]] fun (r:Sl) (r1:Bool) w3=>
nwv w3 fun w4=>
R (.agg #[r.v,.bool r1]) w4) (
divK .i64 (a.n:Int) 2 fun n=>
slc a n (a.n:Nat) 2 fun s=>
cl Pg F.zmul_half [s.v,.int .i64 k] w1 [.agg [.slice,.bool]] fun (r2:Sl) (r3:Bool) w5=>
nwv w5 fun w6=>
nwv w6 fun w7=>
slc a 0 n 2 fun s1=>
bnd (wi (k*n)) fun n1=>
cl Pg F.zmul_half [s1.v,.int .i64 k] w7.drew [.agg [.slice,.bool]] fun (r4:Sl) (r5:Bool) w8=>
cl Pg F.zmul_shifted [.agg #[r2.v,.bool r3],.int .i64 n1] w8 [.agg [.slice,.bool]] fun (r6:Sl) (r7:Bool) w9=>
cl Pg F.num_Add [.agg #[r4.v,.bool r5],.agg #[r6.v,.bool r7]] w9 [.agg [.slice,.bool]] fun (r8:Sl) (r9:Bool) w10=>
nwv w10 fun w11=>
R (.agg #[r8.v,.bool r9]) w11))
theorem Ct.zmul_half {a:Sl} {k:Int} {w:TW} {X:Nat→Prop} {K:KT [.agg [.slice,.bool]]} (h:Sh.zmul_half a k (Rt X [.agg [.slice,.bool]] K w) w.here):Ct Pg F.zmul_half [a.v,.int .i64 k] w X [.agg [.slice,.bool]] K:=
 cod (Sh.zmul_half a k) 37 [(4,37),(6,39)] [(37,2),(39,2)] [] f59 h
def Sh.zmul_unpacked (a0:Sl) (a1:Bool) (k:Int) (R:Value→TW→Prop) (w:TW):Prop:=
nwv w fun w1=>
cl Pg F.limb_One [.int .u64 1] w1 [.one .slice] fun (s:Sl) w2=>
cl Pg F.limb_Shl [s.v,.int .i64 k] w2 [.one .slice] fun (s1:Sl) w3=>
cl Pg F.limb_One [.int .u64 1] w3 [.one .slice] fun (s2:Sl) w4=>
bnd (wi (k-1)) fun n=>
cl Pg F.limb_Shl [s2.v,.int .i64 n] w4 [.one .slice] fun (s3:Sl) w5=>
cl Pg F.api_Nat_Bits [a0.v] w5 [.one (.int .i64)] fun (r:Int) w6=>
bnd (wi (r+k)) fun n1=>
bnd (wi (n1-1)) fun n2=>
divK .i64 n2 k fun n3=>
Jn [.slice] (fun J0=>
Lp [.slice,.slice,.int .i64,.slice,.bool] (fun (out:Sl) (carry:Sl) (i:Int) (a2:Sl) (a3:Bool) w7 C0=>
Jn [.bool,.slice,.bool] (fun J1=>
cond (decide ((i:Int)<n3)) (
J1 true a2 a3 w7) (
cl Pg F.api_Nat_Zero [carry.v] w7 [.one .bool] fun (ok:Bool) w8=>
J1 (!ok) a2 a3 w8)) fun (x:Bool) (a4:Sl) (a5:Bool) w9=>
cond x (
bnd (wi (i*k)) fun n4=>
cl Pg F.zmul_digits [a4.v,.int .i64 n4,.int .i64 k] w9 [.one .slice] fun (s4:Sl) w10=>
cl Pg F.limb_Add [s4.v,carry.v] w10 [.one .slice] fun (s5:Sl) w11=>
nwv w11 fun w12=>
nwv w12 fun w13=>
cl Pg F.limb_Cmp [s5.v,s3.v] w13 [.one (.int .i64)] fun (r1:Int) w14=>
Jn [.bool,.slice,.bool,.slice,.bool] (fun J2=>
cond (decide ((r1:Int)>0)) (
J2 true a4 a5 s5 a5 w14) (
cond ((r1:Int) == 0) (
J2 a5 a4 a5 s5 a5 w14) (
J2 false a4 a5 s5 a5 w14))) fun (x1:Bool) (a6:Sl) (a7:Bool) (x2:Sl) (x3:Bool) w15=>
Jn [.slice,.slice,.bool,.slice,.bool] (fun J3=>
cond x1 (
cl Pg F.limb_Sub [s1.v,s5.v] w15 [.one .slice,.one .bool] fun (s6:Sl) (_:Bool) w16=>
nwv w16 fun w17=>
cl Pg F.limb_One [.int .u64 1] w17 [.one .slice] fun (s7:Sl) w18=>
J3 s7 a6 a7 s6 (!a7) w18) (
J3 Sl.nil a6 a7 x2 x3 w15)) fun (carry1:Sl) (a8:Sl) (a9:Bool) (x4:Sl) (x5:Bool) w19=>
cl Pg F.num_Norm [.agg #[x4.v,.bool x5]] w19 [.agg [.slice,.bool]] fun (r2:Sl) (r3:Bool) w20=>
nwb w20 [r2.v,.bool r3] T.api_Int fun b w21=>
apd w21 T.api_Int 2 32 out ⟨(some ⟨b,0,none⟩),1,1⟩ fun s8 w22=>
bnd (wi (i+1)) fun n5=>
C0 s8 carry1 n5 a8 a9 w22) (
J0 out w9)) Sl.nil Sl.nil 0 a0 a1 w6) fun (out1:Sl) w23=>
cl Pg F.polyz_Norm [out1.v] w23 [.one .slice] fun (s9:Sl) w24=>
R (s9.v) w24
theorem Ct.zmul_unpacked {a0:Sl} {a1:Bool} {k:Int} {w:TW} {X:Nat→Prop} {K:KT [.one .slice]} (h:Sh.zmul_unpacked a0 a1 k (Rt X [.one .slice] K w) w.here):Ct Pg F.zmul_unpacked [.agg #[a0.v,.bool a1],.int .i64 k] w X [.one .slice] K:=
 cod (Sh.zmul_unpacked a0 a1 k) 86 [(2,86),(12,88)] [(86,2),(88,2)] [(2,0,[(5,.one .slice)]),(3,6,[(5,.one .slice),(8,.one .slice),(10,.one (.int .i64)),(86,.one .slice),(87,.one .bool)]),(0,6,[(38,.one .bool),(86,.one .slice),(87,.one .bool)]),(0,12,[(66,.one .bool),(86,.one .slice),(87,.one .bool),(88,.one .slice),(89,.one .bool)]),(1,13,[(8,.one .slice),(86,.one .slice),(87,.one .bool),(88,.one .slice),(89,.one .bool)])] f60 h
def Sh.zmul_before (p:Int) (R:Value→TW→Prop) (w:TW):Prop:=
bnd (wu (p-1)) fun n=>
Jn [.int .u64] (fun J0=>
Lp [.int .u64] (fun (p1:Int) w1 C0=>
cl Pg F.prime_Is [.int .u64 p1] w1 [.one .bool] fun (ok:Bool) w2=>
cond (!ok) (
bnd (wu (p1-1)) fun n1=>
C0 n1 w2) (
J0 p1 w2)) n w) fun (p2:Int) w3=>
R (.int .u64 p2) w3
theorem Ct.zmul_before {p:Int} {w:TW} {X:Nat→Prop} {K:KT [.one (.int .u64)]} (h:Sh.zmul_before p (Rt X [.one (.int .u64)] K w) w.here):Ct Pg F.zmul_before [.int .u64 p] w X [.one (.int .u64)] K:=
 cod (Sh.zmul_before p) 11 [] [] [(2,0,[(0,.one (.int .u64))]),(3,2,[(0,.one (.int .u64))])] f63 h
def Sh.zmul_Engine_modulo (e0:Option Addr) (a:Sl) (b:Sl) (p:Int) (R:Value→TW→Prop) (w:TW):Prop:=
cl Pg F.polyz_Reduce [a.v,.int .u64 p] w [.one .slice,.one (.int .i64)] fun (s:Sl) (_:Int) w1=>
cl Pg F.polyz_Reduce [b.v,.int .u64 p] w1 [.one .slice,.one (.int .i64)] fun (s1:Sl) (_:Int) w2=>
nck e0 fun a1=>
ldc (.ptr) w2 a1 fun (v:Option Addr)=>
nck v fun a2=>
ldc (.ptr) w2 a2 fun (v1:Option Addr)=>
nck v1 fun a3=>
ldc (.ptr) w2 a3 fun (v2:Option Addr)=>
nck v2 fun a4=>
ldc (.ptr) w2 a4 fun (v3:Option Addr)=>
nck v3 fun a5=>
ldc (.ptr) w2 a5 fun (v4:Option Addr)=>
nck v4 fun a6=>
ldc (.ptr) w2 a6 fun (v5:Option Addr)=>
nck v5 fun a7=>
ldc (.ptr) w2 a7 fun (v6:Option Addr)=>
nck v6 fun a8=>
ldc (.ptr) w2 a8 fun (v7:Option Addr)=>
nck v7 fun a9=>
ldc (.ptr) w2 a9 fun (v8:Option Addr)=>
nck v8 fun a10=>
ldc (.ptr) w2 a10 fun (v9:Option Addr)=>
nck v9 fun a11=>
ldc (.ptr) w2 a11 fun (v10:Option Addr)=>
nck v10 fun a12=>
ldc (.ptr) w2 a12 fun (v11:Option Addr)=>
nck v11 fun a13=>
ldc (.ptr) w2 a13 fun (v12:Option Addr)=>
nck v12 fun a14=>
ldc (.ptr) w2 a14 fun (v13:Option Addr)=>
nck v13 fun a15=>
ldc (.ptr) w2 a15 fun (v14:Option Addr)=>
nck v14 fun a16=>
ldc (.ptr) w2 a16 fun (v15:Option Addr)=>
nck v15 fun a17=>
ldc (.int .i64) w2 ((a17.add 3).add 0) fun (v16:Int)=>
ldc (.int .i64) w2 ((a17.add 3).add 1) fun (v17:Int)=>
ldc (.int .i64) w2 ((a17.add 3).add 2) fun (v18:Int)=>
ldc (.int .i64) w2 ((a17.add 3).add 3) fun (v19:Int)=>
ldc (.int .i64) w2 ((a17.add 3).add 4) fun (v20:Int)=>
ldc (.int .i64) w2 ((a17.add 3).add 5) fun (v21:Int)=>
ldc (.int .i64) w2 ((a17.add 3).add 6) fun (v22:Int)=>
ldc (.int .i64) w2 ((a17.add 3).add 7) fun (v23:Int)=>
ldc (.int .i64) w2 ((a17.add 3).add 8) fun (v24:Int)=>
ldc (.int .i64) w2 ((a17.add 3).add 9) fun (v25:Int)=>
ldc (.int .i64) w2 ((a17.add 3).add 10) fun (v26:Int)=>
cl Pg F.pmul_New [.agg #[.int .i64 v16,.int .i64 v17,.int .i64 v18,.int .i64 v19,.int .i64 v20,.int .i64 v21,.int .i64 v22,.int .i64 v23,.int .i64 v24,.int .i64 v25,.int .i64 v26],.int .u64 p] w2 [.one .ptr,.one (.int .i64)] fun (p1:Option Addr) (r2:Int) w3=>
cond ((r2:Int) != 0) (
R (.slice none 0 0) w3) (
cl Pg F.pmul_Engine_Mul [.pointer p1,s.v,s1.v] w3 [.one .slice] fun (s2:Sl) w4=>
nck e0 fun a18=>
ldc (.ptr) w4.drew a18 fun (v27:Option Addr)=>
nck v27 fun a19=>
ldc (.ptr) w4.drew a19 fun (v28:Option Addr)=>
nck v28 fun a20=>
ldc (.ptr) w4.drew a20 fun (v29:Option Addr)=>
nck v29 fun a21=>
ldc (.ptr) w4.drew a21 fun (v30:Option Addr)=>
nck v30 fun a22=>
ldc (.ptr) w4.drew a22 fun (v31:Option Addr)=>
nck v31 fun a23=>
ldc (.ptr) w4.drew a23 fun (v32:Option Addr)=>
nck v32 fun a24=>
ldc (.ptr) w4.drew a24 fun (v33:Option Addr)=>
nck v33 fun a25=>
ldc (.ptr) w4.drew a25 fun (v34:Option Addr)=>
nck v34 fun a26=>
ldc (.ptr) w4.drew a26 fun (v35:Option Addr)=>
nck v35 fun a27=>
ldc (.ptr) w4.drew a27 fun (v36:Option Addr)=>
nck v36 fun a28=>
ldc (.ptr) w4.drew a28 fun (v37:Option Addr)=>
nck v37 fun a29=>
ldc (.ptr) w4.drew a29 fun (v38:Option Addr)=>
nck v38 fun a30=>
ldc (.ptr) w4.drew a30 fun (v39:Option Addr)=>
nck v39 fun a31=>
ldc (.ptr) w4.drew a31 fun (v40:Option Addr)=>
nck v40 fun a32=>
ldc (.ptr) w4.drew a32 fun (v41:Option Addr)=>
nck v41 fun a33=>
ldc (.ptr) w4.drew a33 fun (v42:Option Addr)=>
nck v42 fun a34=>
nck p1 fun a35=>
ldc (.ptr) w4.drew (a35.add 1) fun (v43:Option Addr)=>
nck v43 fun a36=>
ldc (.ptr) w4.drew a36 fun (v44:Option Addr)=>
nck v44 fun a37=>
ldc (.ptr) w4.drew a37 fun (v45:Option Addr)=>
nck v45 fun a38=>
ldc (.ptr) w4.drew a38 fun (v46:Option Addr)=>
nck v46 fun a39=>
ldc (.ptr) w4.drew a39 fun (v47:Option Addr)=>
nck v47 fun a40=>
ldc (.ptr) w4.drew a40 fun (v48:Option Addr)=>
nck v48 fun a41=>
ldc (.ptr) w4.drew a41 fun (v49:Option Addr)=>
nck v49 fun a42=>
ldc (.ptr) w4.drew a42 fun (v50:Option Addr)=>
nck v50 fun a43=>
ldc (.ptr) w4.drew a43 fun (v51:Option Addr)=>
nck v51 fun a44=>
ldc (.ptr) w4.drew a44 fun (v52:Option Addr)=>
nck v52 fun a45=>
ldc (.ptr) w4.drew a45 fun (v53:Option Addr)=>
nck v53 fun a46=>
ldc (.ptr) w4.drew a46 fun (v54:Option Addr)=>
nck v54 fun a47=>
ldc (.ptr) w4.drew a47 fun (v55:Option Addr)=>
nck v55 fun a48=>
ldc (.ptr) w4.drew a48 fun (v56:Option Addr)=>
nck v56 fun a49=>
ldc (.ptr) w4.drew a49 fun (v57:Option Addr)=>
nck v57 fun a50=>
cl Pg F.meter_Meter_Muls [.pointer (some a50)] w4.drew [.one (.int .i64)] fun (r3:Int) w5=>
hld w5 [(a49,.pointer v57),(a48,.pointer v56),(a47,.pointer v55),(a46,.pointer v54),(a45,.pointer v53),(a44,.pointer v52),(a43,.pointer v51),(a42,.pointer v50),(a41,.pointer v49),(a40,.pointer v48),(a39,.pointer v47),(a38,.pointer v46),(a37,.pointer v45),(a36,.pointer v44),((a35.add 1),.pointer v43),(a33,.pointer v42),(a32,.pointer v41),(a31,.pointer v40),(a30,.pointer v39),(a29,.pointer v38),(a28,.pointer v37),(a27,.pointer v36),(a26,.pointer v35),(a25,.pointer v34),(a24,.pointer v33),(a23,.pointer v32),(a22,.pointer v31),(a21,.pointer v30),(a20,.pointer v29),(a19,.pointer v28),(a18,.pointer v27)] <|
cl Pg F.meter_Meter_Spend [.pointer (some a34),.int .i64 r3] w5 [.one (.int .i64)] fun (_:Int) w6=>
hld w6 [(a49,.pointer v57),(a48,.pointer v56),(a47,.pointer v55),(a46,.pointer v54),(a45,.pointer v53),(a44,.pointer v52),(a43,.pointer v51),(a42,.pointer v50),(a41,.pointer v49),(a40,.pointer v48),(a39,.pointer v47),(a38,.pointer v46),(a37,.pointer v45),(a36,.pointer v44),((a35.add 1),.pointer v43),(a33,.pointer v42),(a32,.pointer v41),(a31,.pointer v40),(a30,.pointer v39),(a29,.pointer v38),(a28,.pointer v37),(a27,.pointer v36),(a26,.pointer v35),(a25,.pointer v34),(a24,.pointer v33),(a23,.pointer v32),(a22,.pointer v31),(a21,.pointer v30),(a20,.pointer v29),(a19,.pointer v28),(a18,.pointer v27)] <|
R (s2.v) w6)
theorem Ct.zmul_Engine_modulo {e0:Option Addr} {a:Sl} {b:Sl} {p:Int} {w:TW} {X:Nat→Prop} {K:KT [.one .slice]} (h:Sh.zmul_Engine_modulo e0 a b p (Rt X [.one .slice] K w) w.here):Ct Pg F.zmul_Engine_modulo [.pointer e0,a.v,b.v,.int .u64 p] w X [.one .slice] K:=
 cod (Sh.zmul_Engine_modulo e0 a b p) 193 [] [] [] f64 h
def Sh.zmul_Engine_more (e0:Option Addr) (out:Sl) (m:Sl) (l:Sl) (p:Int) (R:Value→TW→Prop) (w:TW):Prop:=
cl Pg F.limb_DivWord [m.v,.int .u64 p] w [.one .slice,.one (.int .u64),.one (.int .i64)] fun (_:Sl) (r:Int) (_:Int) w1=>
nck e0 fun a=>
ldc (.ptr) w1.drew a fun (v:Option Addr)=>
nck v fun a1=>
ldc (.ptr) w1.drew a1 fun (v1:Option Addr)=>
cl Pg F.limb_One [.int .u64 r] w1.drew [.one .slice] fun (s1:Sl) w2=>
hld w2 [(a1,.pointer v1),(a,.pointer v)] <|
cl Pg F.limb_One [.int .u64 p] w2 [.one .slice] fun (s2:Sl) w3=>
hld w3 [(a1,.pointer v1),(a,.pointer v)] <|
cl Pg F.modn_Engine_Inverse [.pointer v1,s1.v,s2.v] w3 [.one .slice,.one (.int .i64)] fun (s3:Sl) (_:Int) w4=>
hld w4 [(a,.pointer v)] <|
Jn [] (fun J0=>
Lp [.int .i64] (fun (x:Int) w5 C0=>
cond (decide ((x:Int)<(out.n:Int))) (
Jn [.int .u64] (fun J1=>
cond (decide ((x:Int)<(l.n:Int))) (
ixa l x 1 fun a2=>
ldc (.int .u64) w5 a2 fun (v2:Int)=>
J1 v2 w5) (
J1 0 w5)) fun (r3:Int) w6=>
ixa out x 2 fun a3=>
ldc (.slice) w6 a3 fun (v3:Sl)=>
cl Pg F.limb_DivWord [v3.v,.int .u64 p] w6 [.one .slice,.one (.int .u64),.one (.int .i64)] fun (_:Sl) (r4:Int) (_:Int) w7=>
Jn [.int .u64] (fun J2=>
cond (decide ((r3:Int)<r4)) (
bnd (wu (r3+p)) fun n=>
J2 n w7) (
J2 r3 w7)) fun (r6:Int) w8=>
bnd (wu (r6-r4)) fun n1=>
cl Pg F.limb_MulWord [s3.v,.int .u64 n1] w8 [.one .slice] fun (s5:Sl) w9=>
cl Pg F.limb_DivWord [s5.v,.int .u64 p] w9 [.one .slice,.one (.int .u64),.one (.int .i64)] fun (_:Sl) (r7:Int) (_:Int) w10=>
ixa out x 2 fun a4=>
ldc (.slice) w10 a4 fun (v4:Sl)=>
cl Pg F.limb_AddMul [v4.v,m.v,.int .u64 r7] w10 [.one .slice] fun (s7:Sl) w11=>
ixa out x 2 fun a5=>
stc w11 a5 s7.v fun w12=>
bnd (wi (x+1)) fun n2=>
C0 n2 w12) (
J0 w5)) 0 w4) fun  w13=>
R (.tuple #[]) w13
theorem Ct.zmul_Engine_more {e0:Option Addr} {out:Sl} {m:Sl} {l:Sl} {p:Int} {w:TW} {X:Nat→Prop} {K:KT []} (h:Sh.zmul_Engine_more e0 out m l p (Rt X [] K w) w.here):Ct Pg F.zmul_Engine_more [.pointer e0,out.v,m.v,l.v,.int .u64 p] w X [] K:=
 cod (Sh.zmul_Engine_more e0 out m l p) 99 [] [] [(2,0,[]),(3,3,[(47,.one (.int .i64))]),(1,7,[(16,.one (.int .u64))]),(1,10,[(16,.one (.int .u64))])] f65 h
def Sh.zmul_Engine_Unpack (e0:Option Addr) (a0:Sl) (a1:Bool) (k:Int) (R:Value→TW→Prop) (w:TW):Prop:=
nwv w fun w1=>
Jn [.bool,.slice,.bool] (fun J0=>
cond (decide ((k:Int)<2)) (
J0 true a0 a1 w1) (
J0 (decide ((k:Int)>1048576)) a0 a1 w1)) fun (x:Bool) (a2:Sl) (a3:Bool) w2=>
cond x (
R (.tuple #[.slice none 0 0,.int .i64 1]) w2) (
cl Pg F.num_Norm [.agg #[a2.v,.bool a3]] w2 [.agg [.slice,.bool]] fun (r:Sl) (r1:Bool) w3=>
cl Pg F.zmul_unpacked [.agg #[r.v,.bool r1],.int .i64 k] w3 [.one .slice] fun (s:Sl) w4=>
R (.tuple #[s.v,.int .i64 0]) w4)
theorem Ct.zmul_Engine_Unpack {e0:Option Addr} {a0:Sl} {a1:Bool} {k:Int} {w:TW} {X:Nat→Prop} {K:KT [.one .slice,.one (.int .i64)]} (h:Sh.zmul_Engine_Unpack e0 a0 a1 k (Rt X [.one .slice,.one (.int .i64)] K w) w.here):Ct Pg F.zmul_Engine_Unpack [.pointer e0,.agg #[a0.v,.bool a1],.int .i64 k] w X [.one .slice,.one (.int .i64)] K:=
 cod (Sh.zmul_Engine_Unpack e0 a0 a1 k) 18 [(4,18)] [(18,2)] [(0,1,[(13,.one .bool),(18,.one .slice),(19,.one .bool)])] f73 h
def Sh.zmul_shifted (a0:Sl) (a1:Bool) (n:Int) (R:Value→TW→Prop) (w:TW):Prop:=
nwv w fun w1=>
nwv w1 fun w2=>
Jn [.slice,.bool,.slice,.bool] (fun J0=>
Lp [.int .i64,.slice,.bool,.slice,.bool] (fun (n1:Int) (x:Sl) (a2:Bool) (x1:Sl) (x2:Bool) w3 C0=>
cond (decide ((n1:Int)>0)) (
bnd (if (1048576:Int)<n1 then 1048576 else n1) fun n2=>
cl Pg F.limb_Shl [x.v,.int .i64 n2] w3 [.one .slice] fun (s:Sl) w4=>
bnd (wi (n1-n2)) fun n3=>
C0 n3 s a2 x1 x2 w4) (
J0 x a2 x1 x2 w3)) n a0 a1 Sl.nil false w2) fun (x3:Sl) (a3:Bool) (_:Sl) (_:Bool) w5=>
nwv w5 fun w6=>
R (.agg #[x3.v,.bool a3]) w6
theorem Ct.zmul_shifted {a0:Sl} {a1:Bool} {n:Int} {w:TW} {X:Nat→Prop} {K:KT [.agg [.slice,.bool]]} (h:Sh.zmul_shifted a0 a1 n (Rt X [.agg [.slice,.bool]] K w) w.here):Ct Pg F.zmul_shifted [.agg #[a0.v,.bool a1],.int .i64 n] w X [.agg [.slice,.bool]] K:=
 cod (Sh.zmul_shifted a0 a1 n) 23 [(2,23),(4,25)] [(23,2),(25,2)] [(2,0,[(5,.one .slice),(24,.one .bool),(25,.one .slice),(26,.one .bool)]),(3,2,[(1,.one (.int .i64)),(5,.one .slice),(24,.one .bool),(25,.one .slice),(26,.one .bool)])] f102 h
def Sh.zmul_digits (a:Sl) (from0:Int) (n:Int) (R:Value→TW→Prop) (w:TW):Prop:=
divK .i64 from0 64 fun n1=>
cond (decide ((n1:Int)≥(a.n:Int))) (
R (.slice none 0 0) w) (
divK .i64 n 64 fun n2=>
bnd (wi (n1+n2)) fun n3=>
bnd (wi (n3+2)) fun n4=>
bnd (if (n4:Int)<(a.n:Int) then n4 else (a.n:Int)) fun n5=>
slc a n1 n5 1 fun s=>
remK from0 64 fun n6=>
cl Pg F.limb_Shr [s.v,.int .i64 n6] w [.one .slice] fun (s1:Sl) w1=>
cl Pg F.limb_Low [s1.v,.int .i64 n] w1 [.one .slice] fun (s2:Sl) w2=>
R (s2.v) w2)
theorem Ct.zmul_digits {a:Sl} {from0:Int} {n:Int} {w:TW} {X:Nat→Prop} {K:KT [.one .slice]} (h:Sh.zmul_digits a from0 n (Rt X [.one .slice] K w) w.here):Ct Pg F.zmul_digits [a.v,.int .i64 from0,.int .i64 n] w X [.one .slice] K:=
 cod (Sh.zmul_digits a from0 n) 32 [] [] [] f103 h
end Go.Proofs.YtjhfalgmgagdhaaGreatDoor.Zg
end
