/- A part of the proofs of this seat's laws. -/
import Derived.Test.YtpbimnlggalnfaaGreatDoorGC
set_option linter.unusedVariables false
set_option linter.unusedSimpArgs false
set_option linter.unnecessarySimpa false
namespace Go.Proofs.YtpbimnlggalnfaaGreatDoor.Zg
open Go.RowKit
section
set_option maxRecDepth 100000
open Go.Proofs.Tryz
variable {a b d:Sl} {w:TW} {X:Nat→Prop} {K:KT [.one .slice]} {n:Int}
def Sh.cq(a:Sl)(b:Sl)(R:Value→TW→Prop)(w:TW):Prop:=
cl Pg F.bh [a.v] w [.one .bool] λ(ok:Bool) w1=>
cond ok (
R (b.v) w1) (
cl Pg F.bh [b.v] w1 [.one .bool] λ(ok1:Bool) w2=>
cond ok1 (
R (a.v) w2) (
Jn [.slice,.slice,.int .i64] (λJ0=>
Lp [.slice,.slice,.int .i64] (λ(a1:Sl)(b1:Sl)(k:Int) w3 C0=>
Jn [.bool] (λJ1=>
cl Pg F.bJ [a1.v] w3 [.one .bool] λ(ok2:Bool) w4=>
cond ok2 (
cl Pg F.bJ [b1.v] w4 [.one .bool] λ(ok3:Bool) w5=>
J1 ok3 w5) (
J1 false w4)) λ(x:Bool) w6=>
cond x (
cl Pg F.bS [a1.v,.int .i64 1] w6 [.one .slice] λ(s:Sl) w7=>
cl Pg F.bS [b1.v,.int .i64 1] w7 [.one .slice] λ(s1:Sl) w8=>
bnd (wi (k+1)) λn=>
C0 s s1 n w8) (
J0 a1 b1 k w6)) a b 0 w2) λ(a2:Sl)(b2:Sl)(k1:Int) w9=>
Jn [.slice] (λJ2=>
Lp [.slice,.slice] (λ(a3:Sl)(b3:Sl) w10 C1=>
cl Pg F.bh [b3.v] w10 [.one .bool] λ(ok4:Bool) w11=>
cond (!ok4) (
Jn [.slice] (λJ3=>
Lp [.slice] (λ(a4:Sl) w12 C2=>
cl Pg F.bJ [a4.v] w12 [.one .bool] λ(ok5:Bool) w13=>
cond ok5 (
cl Pg F.bS [a4.v,.int .i64 1] w13 [.one .slice] λ(s2:Sl) w14=>
C2 s2 w14) (
J3 a4 w13)) a3 w11) λ(a5:Sl) w15=>
Jn [.slice] (λJ4=>
Lp [.slice] (λ(b4:Sl) w16 C3=>
cl Pg F.bJ [b4.v] w16 [.one .bool] λ(ok6:Bool) w17=>
cond ok6 (
cl Pg F.bS [b4.v,.int .i64 1] w17 [.one .slice] λ(s3:Sl) w18=>
C3 s3 w18) (
J4 b4 w17)) b3 w15) λ(b5:Sl) w19=>
cl Pg F.ct [a5.v,b5.v] w19 [.one (.int .i64)] λ(r:Int) w20=>
Jn [.slice,.slice] (λJ5=>
cond (decide ((r:Int)>0)) (
J5 b5 a5 w20) (
J5 a5 b5 w20)) λ(a6:Sl)(b6:Sl) w21=>
cl Pg F.cp [b6.v,a6.v] w21 [.one .slice] λ(s4:Sl) w22=>
C1 a6 s4 w22) (
J2 a3 w11)) a2 b2 w9) λ(a7:Sl) w23=>
cl Pg F.dy [a7.v,.int .i64 k1] w23 [.one .slice] λ(s5:Sl) w24=>
R (s5.v) w24))
theorem Ct.cq(h:Sh.cq a b (Rt X [.one .slice] K w) w.here):Ct Pg F.cq [a.v,b.v] w X [.one .slice] K:=
 cod (Sh.cq a b) 47 [] [] [(2,0,[(0,.one .slice),(1,.one .slice),(5,.one (.int .i64))]),(3,6,[(0,.one .slice),(1,.one .slice),(5,.one (.int .i64))]),(0,6,[(17,.one .bool)]),(2,2,[(0,.one .slice)]),(3,9,[(0,.one .slice),(1,.one .slice)]),(2,4,[(0,.one .slice)]),(3,10,[(0,.one .slice)]),(2,6,[(1,.one .slice)]),(3,12,[(1,.one .slice)]),(1,15,[(0,.one .slice),(1,.one .slice)])] f16 h
def Sh.bi(a:Sl)(b:Sl)(R:Value→TW→Prop)(w:TW):Prop:=
cl Pg F.di [a.v] w [.one .slice] λ(s:Sl) w1=>
cond (((s.n:Int):Int) != (b.n:Int)) (
R (.bool false) w1) (
Jn [] (λJ0=>
Lp [.int .i64] (λ(i:Int) w2 C0=>
cond (decide ((i:Int)<(s.n:Int))) (
ixa s i 1 λa1=>
ldc (.int .u64) w2.drew a1 λ(v:Int)=>
ixa b i 1 λa2=>
ldc (.int .u64) w2.drew a2 λ(v1:Int)=>
cond ((v:Int) != v1) (
R (.bool false) w2.drew) (
bnd (wi (i+1)) λn=>
C0 n w2.drew)) (
J0 w2)) 0 w1) fun  w3=>
R (.bool true) w3)
theorem Ct.bi{K:KT [.one .bool]}(h:Sh.bi a b (Rt X [.one .bool] K w) w.here):Ct Pg F.bi [a.v,b.v] w X [.one .bool] K:=
 cod (Sh.bi a b) 29 [] [] [(2,0,[]),(3,5,[(6,.one (.int .i64))])] f20 h
def Sh.cF(a:Sl)(R:Value→TW→Prop)(w:TW):Prop:=
bnd (wi (2*(a.n:Int))) λn=>
mks w 0 n T.ar 8 [.int .u64 0] λs w1=>
Jn [.slice] (λJ0=>
Lp [.slice,.int .i64] (λ(out:Sl)(i:Int) w2 C0=>
cond (decide ((i:Int)<(a.n:Int))) (
ixa a i 1 λa1=>
ldc (.int .u64) w2.drew a1 λ(v:Int)=>
cR v 4294967296 λn1=>
ixa a i 1 λa2=>
ldc (.int .u64) w2.drew a2 λ(v1:Int)=>
eH .u64 v1 4294967296 λn2=>
nwb w2.drew [.int .u64 n1,.int .u64 n2] T.ar λb w3=>
hld w3 [(a2,.int .u64 v1),(a1,.int .u64 v)] <|
apd w3 T.ar 1 8 out ⟨(some ⟨b,0,none⟩),2,2⟩ λs1 w4=>
hld w4 [(a2,.int .u64 v1),(a1,.int .u64 v)] <|
bnd (wi (i+1)) λn3=>
C0 s1 n3 w4) (
J0 out w2)) s 0 w1) λ(out1:Sl) w5=>
cl Pg F.aB [out1.v] w5 [.one .slice] λ(s2:Sl) w6=>
R (s2.v) w6
theorem Ct.cF(h:Sh.cF a (Rt X [.one .slice] K w) w.here):Ct Pg F.cF [a.v] w X [.one .slice] K:=
 cod (Sh.cF a) 30 [] [] [(2,0,[(3,.one .slice)]),(3,3,[(3,.one .slice),(4,.one (.int .i64))])] f45 h
def Sh.bh(a:Sl)(R:Value→TW→Prop)(w:TW):Prop:=
R (.bool (((a.n:Int):Int) == 0)) w
theorem Ct.bh{K:KT [.one .bool]}(h:Sh.bh a (Rt X [.one .bool] K w) w.here):Ct Pg F.bh [a.v] w X [.one .bool] K:=
 cod (Sh.bh a) 6 [] [] [] f48 h
def Sh.bJ(a:Sl)(R:Value→TW→Prop)(w:TW):Prop:=
ixa a 0 1 λa1=>
ldc (.int .u64) w a1 λ(v:Int)=>
cR v 2 λn=>
R (.bool ((n:Int) == 0)) w
theorem Ct.bJ{K:KT [.one .bool]}(h:Sh.bJ a (Rt X [.one .bool] K w) w.here):Ct Pg F.bJ [a.v] w X [.one .bool] K:=
 cod (Sh.bJ a) 8 [] [] [] f49 h
def Sh.bS(a:Sl)(n:Int)(R:Value→TW→Prop)(w:TW):Prop:=
eH .i64 n 32 λn1=>
Jn [.slice] (λJ0=>
Lp [.slice,.int .i64] (λ(out:Sl)(i:Int) w1 C0=>
cond (decide ((i:Int)<(a.n:Int))) (
ixa a i 1 λa1=>
ldc (.int .u64) w1 a1 λ(v:Int)=>
cR n 32 λn2=>
bnd (wu (n2)) λn3=>
fF .u64 v n3 λn4=>
bnd (wi (i+1)) λn5=>
Jn [.int .u64] (λJ1=>
cond (decide ((n5:Int)<(a.n:Int))) (
bnd (wi (i+1)) λn6=>
ixa a n6 1 λa2=>
ldc (.int .u64) w1 a2 λ(v1:Int)=>
cR n 32 λn7=>
bnd (wi (32-n7)) λn8=>
bnd (wu (n8)) λn9=>
iy .u64 v1 n9 λn10=>
cR n10 4294967296 λn11=>
bnd (wu (n4+n11)) λn12=>
J1 n12 w1) (
J1 n4 w1)) λ(y:Int) w2=>
cR y 4294967296 λn13=>
nwb w2 [.int .u64 n13] T.ar λb w3=>
apd w3 T.ar 1 8 out ⟨(some ⟨b,0,none⟩),1,1⟩ λs w4=>
bnd (wi (i+1)) λn14=>
C0 s n14 w4) (
J0 out w1)) Sl.nil n1 w) λ(out1:Sl) w5=>
cl Pg F.aB [out1.v] w5 [.one .slice] λ(s1:Sl) w6=>
R (s1.v) w6
theorem Ct.bS(h:Sh.bS a n (Rt X [.one .slice] K w) w.here):Ct Pg F.bS [a.v,.int .i64 n] w X [.one .slice] K:=
 cod (Sh.bS a n) 49 [] [] [(2,0,[(5,.one .slice)]),(3,3,[(5,.one .slice),(6,.one (.int .i64))]),(1,7,[(7,.one (.int .u64))])] f50 h
def Sh.ct(a:Sl)(b:Sl)(R:Value→TW→Prop)(w:TW):Prop:=
cond (((a.n:Int):Int) != (b.n:Int)) (
cond (decide (((a.n:Int):Int)<(b.n:Int))) (
R (.int .i64 (-1)) w) (
R (.int .i64 1) w)) (
bnd (wi ((a.n:Int)-1)) λn=>
Jn [] (λJ0=>
Lp [.int .i64] (λ(i:Int) w1 C0=>
cond (decide ((i:Int)≥0)) (
ixa a i 1 λa1=>
ldc (.int .u64) w1.drew a1 λ(v:Int)=>
ixa b i 1 λa2=>
ldc (.int .u64) w1.drew a2 λ(v1:Int)=>
cond (decide ((v:Int)<v1)) (
R (.int .i64 (-1)) w1.drew) (
ixa a i 1 λa3=>
ldc (.int .u64) w1.drew.drew a3 λ(v2:Int)=>
ixa b i 1 λa4=>
ldc (.int .u64) w1.drew.drew a4 λ(v3:Int)=>
cond (decide ((v2:Int)>v3)) (
R (.int .i64 1) w1.drew.drew) (
bnd (wi (i-1)) λn1=>
C0 n1 w1.drew.drew))) (
J0 w1)) n w) fun  w2=>
R (.int .i64 0) w2)
theorem Ct.ct{K:KT [.one (.int .i64)]}(h:Sh.ct a b (Rt X [.one (.int .i64)] K w) w.here):Ct Pg F.ct [a.v,b.v] w X [.one (.int .i64)] K:=
 cod (Sh.ct a b) 41 [] [] [(2,0,[]),(3,6,[(5,.one (.int .i64))])] f51 h
def Sh.cp(a:Sl)(b:Sl)(R:Value→TW→Prop)(w:TW):Prop:=
mks w 0 (a.n:Int) T.ar 8 [.int .u64 0] λs w1=>
Jn [.slice] (λJ0=>
Lp [.slice,.int .u64,.int .i64] (λ(out:Sl)(c:Int)(i:Int) w2 C0=>
cond (decide ((i:Int)<(a.n:Int))) (
Jn [.int .u64] (λJ1=>
cond (decide ((i:Int)<(b.n:Int))) (
ixa b i 1 λa1=>
ldc (.int .u64) w2 a1 λ(v:Int)=>
bnd (wu (c+v)) λn=>
J1 n w2) (
J1 c w2)) λ(s1:Int) w3=>
ixa a i 1 λa2=>
ldc (.int .u64) w3 a2 λ(v1:Int)=>
Jn [.slice,.int .u64] (λJ2=>
cond (decide ((v1:Int)≥s1)) (
ixa a i 1 λa3=>
ldc (.int .u64) w3 a3 λ(v2:Int)=>
bnd (wu (v2-s1)) λn1=>
nwb w3 [.int .u64 n1] T.ar λb1 w4=>
apd w4 T.ar 1 8 out ⟨(some ⟨b1,0,none⟩),1,1⟩ λs2 w5=>
J2 s2 0 w5) (
ixa a i 1 λa4=>
ldc (.int .u64) w3 a4 λ(v3:Int)=>
bnd (wu (v3+4294967296)) λn2=>
bnd (wu (n2-s1)) λn3=>
nwb w3 [.int .u64 n3] T.ar λb2 w6=>
apd w6 T.ar 1 8 out ⟨(some ⟨b2,0,none⟩),1,1⟩ λs3 w7=>
J2 s3 1 w7)) λ(out1:Sl)(c1:Int) w8=>
bnd (wi (i+1)) λn4=>
C0 out1 c1 n4 w8) (
J0 out w2)) s 0 0 w1) λ(out2:Sl) w9=>
cl Pg F.aB [out2.v] w9 [.one .slice] λ(s4:Sl) w10=>
R (s4.v) w10
theorem Ct.cp(h:Sh.cp a b (Rt X [.one .slice] K w) w.here):Ct Pg F.cp [a.v,b.v] w X [.one .slice] K:=
 cod (Sh.cp a b) 56 [] [] [(2,0,[(5,.one .slice)]),(3,4,[(5,.one .slice),(6,.one (.int .u64)),(7,.one (.int .i64))]),(1,8,[(8,.one (.int .u64))]),(1,10,[(5,.one .slice),(6,.one (.int .u64))])] f52 h
def Sh.dy(a:Sl)(n:Int)(R:Value→TW→Prop)(w:TW):Prop:=
cond (((a.n:Int):Int) == 0) (
R (.slice none 0 0) w) (
eH .i64 n 32 λn1=>
eH .i64 n 32 λn2=>
bnd (wi (n2+(a.n:Int))) λn3=>
bnd (wi (n3+1)) λn4=>
mks w n1 n4 T.ar 8 [.int .u64 0] λs w1=>
Jn [.slice,.int .u64] (λJ0=>
Lp [.slice,.int .u64,.int .i64] (λ(out:Sl)(c:Int)(i:Int) w2 C0=>
cond (decide ((i:Int)<(a.n:Int))) (
ixa a i 1 λa1=>
ldc (.int .u64) w2 a1 λ(v:Int)=>
cR n 32 λn5=>
bnd (wu (n5)) λn6=>
iy .u64 v n6 λn7=>
bnd (wu (c+n7)) λn8=>
cR n8 4294967296 λn9=>
nwb w2 [.int .u64 n9] T.ar λb w3=>
apd w3 T.ar 1 8 out ⟨(some ⟨b,0,none⟩),1,1⟩ λs1 w4=>
eH .u64 n8 4294967296 λn10=>
bnd (wi (i+1)) λn11=>
C0 s1 n10 n11 w4) (
J0 out c w2)) s 0 0 w1) λ(out1:Sl)(c1:Int) w5=>
nwb w5 [.int .u64 c1] T.ar λb1 w6=>
apd w6 T.ar 1 8 out1 ⟨(some ⟨b1,0,none⟩),1,1⟩ λs2 w7=>
cl Pg F.aB [s2.v] w7 [.one .slice] λ(s3:Sl) w8=>
R (s3.v) w8)
theorem Ct.dy(h:Sh.dy a n (Rt X [.one .slice] K w) w.here):Ct Pg F.dy [a.v,.int .i64 n] w X [.one .slice] K:=
 cod (Sh.dy a n) 48 [] [] [(2,0,[(5,.one .slice),(6,.one (.int .u64))]),(3,6,[(5,.one .slice),(6,.one (.int .u64)),(7,.one (.int .i64))])] f53 h
def Sh.di(a:Sl)(R:Value→TW→Prop)(w:TW):Prop:=
Jn [.slice] (λJ0=>
Lp [.slice,.int .i64] (λ(out:Sl)(i:Int) w1 C0=>
cond (decide ((i:Int)<(a.n:Int))) (
ixa a i 1 λa1=>
ldc (.int .u64) w1 a1 λ(v:Int)=>
bnd (wi (i+1)) λn=>
Jn [.int .u64] (λJ1=>
cond (decide ((n:Int)<(a.n:Int))) (
bnd (wi (i+1)) λn1=>
ixa a n1 1 λa2=>
ldc (.int .u64) w1 a2 λ(v1:Int)=>
bnd (wu (v1*4294967296)) λn2=>
bnd (wu (v+n2)) λn3=>
J1 n3 w1) (
J1 v w1)) λ(y:Int) w2=>
nwb w2 [.int .u64 y] T.ar λb w3=>
apd w3 T.ar 1 8 out ⟨(some ⟨b,0,none⟩),1,1⟩ λs w4=>
bnd (wi (i+2)) λn4=>
C0 s n4 w4) (
J0 out w1)) Sl.nil 0 w) λ(out1:Sl) w5=>
Jn [.slice] (λJ2=>
Lp [.slice] (λ(out2:Sl) w6 C1=>
Jn [.bool] (λJ3=>
cond (decide (((out2.n:Int):Int)>0)) (
bnd (wi ((out2.n:Int)-1)) λn5=>
ixa out2 n5 1 λa3=>
ldc (.int .u64) w6 a3 λ(v2:Int)=>
J3 ((v2:Int) == 0) w6) (
J3 false w6)) λ(x:Bool) w7=>
cond x (
bnd (wi ((out2.n:Int)-1)) λn6=>
slc out2 0 n6 1 λs1=>
C1 s1 w7) (
J2 out2 w7)) out1 w5) λ(out3:Sl) w8=>
R (out3.v) w8
theorem Ct.di(h:Sh.di a (Rt X [.one .slice] K w) w.here):Ct Pg F.di [a.v] w X [.one .slice] K:=
 cod (Sh.di a) 51 [] [] [(2,0,[(3,.one .slice)]),(3,3,[(3,.one .slice),(4,.one (.int .i64))]),(1,7,[(5,.one (.int .u64))]),(2,2,[(3,.one .slice)]),(3,9,[(3,.one .slice)]),(0,9,[(44,.one .bool)])] f60 h
def Sh.dC(a:Sl)(b:Sl)(R:Value→TW→Prop)(w:TW):Prop:=
bnd (wi ((a.n:Int)+(b.n:Int))) λn=>
mks w n n T.ar 8 [.int .u64 0] λs w1=>
Jn [] (λJ0=>
Lp [.int .i64] (λ(i:Int) w2 C0=>
cond (decide ((i:Int)<(a.n:Int))) (
Jn [.int .u64] (λJ1=>
Lp [.int .u64,.int .i64] (λ(c:Int)(j:Int) w3 C1=>
cond (decide ((j:Int)<(b.n:Int))) (
bnd (wi (i+j)) λn1=>
ixa s n1 1 λa1=>
ldc (.int .u64) w3.drew a1 λ(v:Int)=>
ixa a i 1 λa2=>
ldc (.int .u64) w3.drew a2 λ(v1:Int)=>
ixa b j 1 λa3=>
ldc (.int .u64) w3.drew a3 λ(v2:Int)=>
bnd (wu (v1*v2)) λn2=>
bnd (wu (v+n2)) λn3=>
bnd (wu (n3+c)) λn4=>
bnd (wi (i+j)) λn5=>
cR n4 4294967296 λn6=>
ixa s n5 1 λa4=>
stc w3.drew a4 (.int .u64 n6) λw4=>
eH .u64 n4 4294967296 λn7=>
bnd (wi (j+1)) λn8=>
C1 n7 n8 w4) (
J1 c w3)) 0 0 w2) λ(c1:Int) w5=>
bnd (wi (i+(b.n:Int))) λn9=>
ixa s n9 1 λa5=>
stc w5 a5 (.int .u64 c1) λw6=>
bnd (wi (i+1)) λn10=>
C0 n10 w6) (
J0 w2)) 0 w1) fun  w7=>
cl Pg F.aB [s.v] w7 [.one .slice] λ(s1:Sl) w8=>
R (s1.v) w8
theorem Ct.dC(h:Sh.dC a b (Rt X [.one .slice] K w) w.here):Ct Pg F.dC [a.v,b.v] w X [.one .slice] K:=
 cod (Sh.dC a b) 64 [] [] [(2,0,[]),(3,3,[(6,.one (.int .i64))]),(2,2,[(7,.one (.int .u64))]),(3,7,[(7,.one (.int .u64)),(8,.one (.int .i64))])] f84 h
def Sh.aB(a:Sl)(R:Value→TW→Prop)(w:TW):Prop:=
Jn [.int .i64] (λJ0=>
Lp [.int .i64] (λ(k:Int) w1 C0=>
Jn [.bool] (λJ1=>
cond (decide ((k:Int)>0)) (
bnd (wi (k-1)) λn=>
ixa a n 1 λa1=>
ldc (.int .u64) w1 a1 λ(v:Int)=>
J1 ((v:Int) == 0) w1) (
J1 false w1)) λ(x:Bool) w2=>
cond x (
bnd (wi (k-1)) λn1=>
C0 n1 w2) (
J0 k w2)) (a.n:Int) w) λ(k1:Int) w3=>
slc a 0 k1 1 λs=>
R (s.v) w3
theorem Ct.aB(h:Sh.aB a (Rt X [.one .slice] K w) w.here):Ct Pg F.aB [a.v] w X [.one .slice] K:=
 cod (Sh.aB a) 21 [] [] [(2,0,[(3,.one (.int .i64))]),(3,2,[(3,.one (.int .i64))]),(0,2,[(15,.one .bool)])] f85 h
def Sh.dD(a:Sl)(b:Sl)(R:Value→TW→Prop)(w:TW):Prop:=
bnd (if ((b.n:Int):Int)>(a.n:Int) then (b.n:Int) else (a.n:Int)) λn=>
bnd (wi (n+1)) λn1=>
mks w 0 n1 T.ar 8 [.int .u64 0] λs w1=>
Jn [.slice] (λJ0=>
Lp [.slice,.int .u64,.int .i64] (λ(out:Sl)(c:Int)(i:Int) w2 C0=>
Jn [.bool] (λJ1=>
cond (decide ((i:Int)<(a.n:Int))) (
J1 true w2) (
cond (decide ((i:Int)<(b.n:Int))) (
J1 true w2) (
J1 (decide ((c:Int)>0)) w2))) λ(x:Bool) w3=>
cond x (
Jn [.int .u64] (λJ2=>
cond (decide ((i:Int)<(a.n:Int))) (
ixa a i 1 λa1=>
ldc (.int .u64) w3 a1 λ(v:Int)=>
bnd (wu (c+v)) λn2=>
J2 n2 w3) (
J2 c w3)) λ(c1:Int) w4=>
Jn [.int .u64] (λJ3=>
cond (decide ((i:Int)<(b.n:Int))) (
ixa b i 1 λa2=>
ldc (.int .u64) w4 a2 λ(v1:Int)=>
bnd (wu (c1+v1)) λn3=>
J3 n3 w4) (
J3 c1 w4)) λ(c2:Int) w5=>
cR c2 4294967296 λn4=>
nwb w5 [.int .u64 n4] T.ar λb1 w6=>
apd w6 T.ar 1 8 out ⟨(some ⟨b1,0,none⟩),1,1⟩ λs1 w7=>
eH .u64 c2 4294967296 λn5=>
bnd (wi (i+1)) λn6=>
C0 s1 n5 n6 w7) (
J0 out w3)) s 0 0 w1) λ(out1:Sl) w8=>
cl Pg F.aB [out1.v] w8 [.one .slice] λ(s2:Sl) w9=>
R (s2.v) w9
theorem Ct.dD(h:Sh.dD a b (Rt X [.one .slice] K w) w.here):Ct Pg F.dD [a.v,b.v] w X [.one .slice] K:=
 cod (Sh.dD a b) 60 [] [] [(2,0,[(5,.one .slice)]),(3,4,[(5,.one .slice),(6,.one (.int .u64)),(7,.one (.int .i64))]),(0,4,[(28,.one .bool)]),(1,7,[(6,.one (.int .u64))]),(1,9,[(6,.one (.int .u64))])] f92 h
def Sh.cd(y:Int)(R:Value→TW→Prop)(w:TW):Prop:=
nwb w [.int .u64 y] T.ar λb w1=>
cl Pg F.cF [.slice (some ⟨b,0,none⟩) 1 1] w1 [.one .slice] λ(s:Sl) w2=>
R (s.v) w2
theorem Ct.cd{y:Int}(h:Sh.cd y (Rt X [.one .slice] K w) w.here):Ct Pg F.cd [.int .u64 y] w X [.one .slice] K:=
 cod (Sh.cd y) 6 [] [] [] f105 h
def Sh.cA(a:Sl)(d:Sl)(R:Value→TW→Prop)(w:TW):Prop:=
cl Pg F.ct [a.v,d.v] w [.one (.int .i64)] λ(r:Int) w1=>
cond (decide ((r:Int)<0)) (
R (.tuple #[.slice none 0 0,a.v]) w1) (
bnd (wi ((d.n:Int)+1)) λn=>
mks w1 n n T.ar 8 [.int .u64 0] λs w2=>
mks w2 (a.n:Int) (a.n:Int) T.ar 8 [.int .u64 0] λs1 w3=>
cl Pg F.cW [a.v] w3 [.one (.int .i64)] λ(r1:Int) w4=>
bnd (wi (r1-1)) λn1=>
Jn [] (λJ0=>
Lp [.int .i64] (λ(i:Int) w5 C0=>
cond (decide ((i:Int)≥0)) (
cl Pg F.dx [a.v,.int .i64 i] w5 [.one (.int .u64)] λ(r2:Int) w6=>
cl Pg F.cH [s.v,.int .u64 r2,d.v] w6 [.one .bool] λ(ok:Bool) w7=>
Jn [] (λJ1=>
cond ok (
eH .i64 i 32 λn2=>
ixa s1 n2 1 λa1=>
ldc (.int .u64) w7 a1 λ(v:Int)=>
cR i 32 λn3=>
bnd (wu (n3)) λn4=>
iy .u64 1 n4 λn5=>
bnd (bu .or .u64 v n5) λn6=>
ixa s1 n2 1 λa2=>
stc w7 a2 (.int .u64 n6) λw8=>
J1 w8) (
J1 w7)) fun  w9=>
bnd (wi (i-1)) λn7=>
C0 n7 w9) (
J0 w5)) n1 w4) fun  w10=>
cl Pg F.aB [s1.v] w10 [.one .slice] λ(s2:Sl) w11=>
cl Pg F.aB [s.v] w11 [.one .slice] λ(s3:Sl) w12=>
R (.tuple #[s2.v,s3.v]) w12)
theorem Ct.cA{K:KT [.one .slice,.one .slice]}(h:Sh.cA a d (Rt X [.one .slice,.one .slice] K w) w.here):Ct Pg F.cA [a.v,d.v] w X [.one .slice,.one .slice] K:=
 cod (Sh.cA a d) 49 [] [] [(2,0,[]),(3,6,[(8,.one (.int .i64))]),(1,9,[])] f107 h
def Sh.cW(a:Sl)(R:Value→TW→Prop)(w:TW):Prop:=
cond (((a.n:Int):Int) == 0) (
R (.int .i64 0) w) (
bnd (wi ((a.n:Int)-1)) λn=>
bnd (wi (32*n)) λn1=>
bnd (wi ((a.n:Int)-1)) λn2=>
ixa a n2 1 λa1=>
ldc (.int .u64) w a1 λ(v:Int)=>
Jn [.int .i64] (λJ0=>
Lp [.int .i64,.int .u64] (λ(n3:Int)(y:Int) w1 C0=>
cond (decide ((y:Int)>0)) (
bnd (wi (n3+1)) λn4=>
eH .u64 y 2 λn5=>
C0 n4 n5 w1) (
J0 n3 w1)) n1 v w) λ(n6:Int) w2=>
R (.int .i64 n6) w2)
theorem Ct.cW{K:KT [.one (.int .i64)]}(h:Sh.cW a (Rt X [.one (.int .i64)] K w) w.here):Ct Pg F.cW [a.v] w X [.one (.int .i64)] K:=
 cod (Sh.cW a) 25 [] [] [(2,0,[(3,.one (.int .i64))]),(3,5,[(3,.one (.int .i64)),(4,.one (.int .u64))])] f129 h
def Sh.cH(r:Sl)(b:Int)(d:Sl)(R:Value→TW→Prop)(w:TW):Prop:=
Jn [] (λJ0=>
Lp [.int .u64,.int .i64] (λ(b1:Int)(i:Int) w1 C0=>
cond (decide ((i:Int)<(r.n:Int))) (
ixa r i 1 λa=>
ldc (.int .u64) w1 a λ(v:Int)=>
bnd (wu (2*v)) λn=>
bnd (wu (n+b1)) λn1=>
cR n1 4294967296 λn2=>
ixa r i 1 λa1=>
stc w1 a1 (.int .u64 n2) λw2=>
eH .u64 n1 4294967296 λn3=>
bnd (wi (i+1)) λn4=>
C0 n3 n4 w2) (
J0 w1)) b 0 w) fun  w3=>
bnd (wi ((r.n:Int)-1)) λn5=>
Jn [.bool] (λJ1=>
Lp [.bool,.int .i64] (λ(more:Bool)(i1:Int) w4 C1=>
cond (decide ((i1:Int)≥0)) (
Jn [.int .u64] (λJ2=>
cond (decide ((i1:Int)<(d.n:Int))) (
ixa d i1 1 λa2=>
ldc (.int .u64) w4 a2 λ(v1:Int)=>
J2 v1 w4) (
J2 0 w4)) λ(y:Int) w5=>
ixa r i1 1 λa3=>
ldc (.int .u64) w5 a3 λ(v2:Int)=>
cond ((v2:Int) != y) (
ixa r i1 1 λa4=>
ldc (.int .u64) w5 a4 λ(v3:Int)=>
J1 (decide ((v3:Int)>y)) w5) (
bnd (wi (i1-1)) λn6=>
C1 more n6 w5)) (
J1 more w4)) true n5 w3) λ(more1:Bool) w6=>
cond (!more1) (
R (.bool false) w6) (
Jn [] (λJ3=>
Lp [.int .u64,.int .i64] (λ(c:Int)(i2:Int) w7 C2=>
cond (decide ((i2:Int)<(r.n:Int))) (
Jn [.int .u64] (λJ4=>
cond (decide ((i2:Int)<(d.n:Int))) (
ixa d i2 1 λa5=>
ldc (.int .u64) w7 a5 λ(v4:Int)=>
bnd (wu (c+v4)) λn7=>
J4 n7 w7) (
J4 c w7)) λ(s:Int) w8=>
ixa r i2 1 λa6=>
ldc (.int .u64) w8 a6 λ(v5:Int)=>
Jn [.int .u64] (λJ5=>
cond (decide ((v5:Int)≥s)) (
ixa r i2 1 λa7=>
ldc (.int .u64) w8 a7 λ(v6:Int)=>
bnd (wu (v6-s)) λn8=>
ixa r i2 1 λa8=>
stc w8 a8 (.int .u64 n8) λw9=>
J5 0 w9) (
ixa r i2 1 λa9=>
ldc (.int .u64) w8 a9 λ(v7:Int)=>
bnd (wu (4294967296-s)) λn9=>
bnd (wu (v7+n9)) λn10=>
ixa r i2 1 λa10=>
stc w8 a10 (.int .u64 n10) λw10=>
J5 1 w10)) λ(c1:Int) w11=>
bnd (wi (i2+1)) λn11=>
C2 c1 n11 w11) (
J3 w7)) 0 0 w6) fun  w12=>
R (.bool true) w12)
theorem Ct.cH{r:Sl}{b:Int}{K:KT [.one .bool]}(h:Sh.cH r b d (Rt X [.one .bool] K w) w.here):Ct Pg F.cH [r.v,.int .u64 b,d.v] w X [.one .bool] K:=
 cod (Sh.cH r b d) 102 [] [] [(2,0,[]),(3,2,[(1,.one (.int .u64)),(7,.one (.int .i64))]),(2,2,[(9,.one .bool)]),(3,9,[(9,.one .bool),(10,.one (.int .i64))]),(1,13,[(11,.one (.int .u64))]),(2,4,[]),(3,20,[(12,.one (.int .u64)),(13,.one (.int .i64))]),(1,24,[(14,.one (.int .u64))]),(1,26,[(12,.one (.int .u64))])] f130 h
def Sh.dx(a:Sl)(i:Int)(R:Value→TW→Prop)(w:TW):Prop:=
eH .i64 i 32 λn=>
ixa a n 1 λa1=>
ldc (.int .u64) w a1 λ(v:Int)=>
cR i 32 λn1=>
bnd (wu (n1)) λn2=>
fF .u64 v n2 λn3=>
bnd (bu .and .u64 n3 1) λn4=>
R (.int .u64 n4) w
theorem Ct.dx{i:Int}{K:KT [.one (.int .u64)]}(h:Sh.dx a i (Rt X [.one (.int .u64)] K w) w.here):Ct Pg F.dx [a.v,.int .i64 i] w X [.one (.int .u64)] K:=
 cod (Sh.dx a i) 15 [] [] [] f131 h
end
section
set_option maxRecDepth 100000
open Go.Proofs.Tryz
variable {a0 b0 n:Sl} {a1 b1:Bool} {w:TW} {X:Nat→Prop} {K:KT [.agg [.slice,.bool]]}
def Sh.bf(a0:Sl)(a1:Bool)(R:Value→TW→Prop)(w:TW):Prop:=
nwv w λw1=>
nwv w1 λw2=>
cl Pg F.cF [a0.v] w2.drew [.one .slice] λ(s:Sl) w3=>
cl Pg F.ax [s.v,.bool a1] w3 [.agg [.slice,.bool]] λ(r:Sl)(r1:Bool) w4=>
nwv w4 λw5=>
R (.agg #[r.v,.bool r1]) w5
theorem Ct.bf(h:Sh.bf a0 a1 (Rt X [.agg [.slice,.bool]] K w) w.here):Ct Pg F.bf [.agg #[a0.v,.bool a1]] w X [.agg [.slice,.bool]] K:=
 cod (Sh.bf a0 a1) 9 [(1,9),(2,11)] [(9,2),(11,2)] [] f12 h
def Sh.bP(a0:Sl)(a1:Bool)(R:Value→TW→Prop)(w:TW):Prop:=
nwv w λw1=>
nwv w1 λw2=>
cl Pg F.di [a0.v] w2.drew [.one .slice] λ(s:Sl) w3=>
nwv w3 λw4=>
R (.agg #[s.v,.bool a1]) w4
theorem Ct.bP(h:Sh.bP a0 a1 (Rt X [.agg [.slice,.bool]] K w) w.here):Ct Pg F.bP [.agg #[a0.v,.bool a1]] w X [.agg [.slice,.bool]] K:=
 cod (Sh.bP a0 a1) 9 [(1,9),(2,11)] [(9,2),(11,2)] [] f23 h
def Sh.an(a0:Sl)(a1:Bool)(b0:Sl)(b1:Bool)(R:Value→TW→Prop)(w:TW):Prop:=
nwv w λw1=>
nwv w1 λw2=>
nwv w2 λw3=>
cl Pg F.dC [a0.v,b0.v] w3.drew [.one .slice] λ(s:Sl) w4=>
cl Pg F.ax [s.v,.bool (!(a1 == b1))] w4 [.agg [.slice,.bool]] λ(r:Sl)(r1:Bool) w5=>
nwv w5 λw6=>
R (.agg #[r.v,.bool r1]) w6
theorem Ct.an(h:Sh.an a0 a1 b0 b1 (Rt X [.agg [.slice,.bool]] K w) w.here):Ct Pg F.an [.agg #[a0.v,.bool a1],.agg #[b0.v,.bool b1]] w X [.agg [.slice,.bool]] K:=
 cod (Sh.an a0 a1 b0 b1) 16 [(2,16),(3,18),(4,20)] [(16,2),(18,2),(20,2)] [] f42 h
def Sh.ax(n:Sl)(neg:Bool)(R:Value→TW→Prop)(w:TW):Prop:=
nwv w λw1=>
Jn [.slice,.bool] (λJ0=>
cond neg (
cl Pg F.bh [n.v] w1 [.one .bool] λ(ok:Bool) w2=>
nwv w2 λw3=>
J0 n (!ok) w3) (
nwv w1 λw4=>
J0 n false w4)) λ(x:Sl)(x1:Bool) w5=>
R (.agg #[x.v,.bool x1]) w5
theorem Ct.ax{neg:Bool}(h:Sh.ax n neg (Rt X [.agg [.slice,.bool]] K w) w.here):Ct Pg F.ax [n.v,.bool neg] w X [.agg [.slice,.bool]] K:=
 cod (Sh.ax n neg) 13 [(4,13)] [(13,2)] [(0,1,[(13,.one .slice),(14,.one .bool)])] f44 h
def Sh.cN(n:Sl)(R:Value→TW→Prop)(w:TW):Prop:=
nwv w λw1=>
nwv w1 λw2=>
R (.agg #[n.v,.bool false]) w2
theorem Ct.cN(h:Sh.cN n (Rt X [.agg [.slice,.bool]] K w) w.here):Ct Pg F.cN [n.v] w X [.agg [.slice,.bool]] K:=
 cod (Sh.cN n) 5 [(2,5)] [(5,2)] [] f57 h
def Sh.aL(a0:Sl)(a1:Bool)(R:Value→TW→Prop)(w:TW):Prop:=
nwv w λw1=>
nwv w1 λw2=>
cl Pg F.ax [a0.v,.bool (!a1)] w2 [.agg [.slice,.bool]] λ(r:Sl)(r1:Bool) w3=>
nwv w3 λw4=>
R (.agg #[r.v,.bool r1]) w4
theorem Ct.aL(h:Sh.aL a0 a1 (Rt X [.agg [.slice,.bool]] K w) w.here):Ct Pg F.aL [.agg #[a0.v,.bool a1]] w X [.agg [.slice,.bool]] K:=
 cod (Sh.aL a0 a1) 9 [(1,9),(2,11)] [(9,2),(11,2)] [] f58 h
def Sh.bR(a0:Sl)(a1:Bool)(b0:Sl)(b1:Bool)(R:Value→TW→Prop)(w:TW):Prop:=
nwv w λw1=>
nwv w1 λw2=>
nwv w2 λw3=>
cond (a1 == b1) (
cl Pg F.dD [a0.v,b0.v] w3.drew [.one .slice] λ(s:Sl) w4=>
cl Pg F.ax [s.v,.bool a1] w4 [.agg [.slice,.bool]] λ(r:Sl)(r1:Bool) w5=>
nwv w5 λw6=>
R (.agg #[r.v,.bool r1]) w6) (
cl Pg F.ct [a0.v,b0.v] w3 [.one (.int .i64)] λ(r2:Int) w7=>
cond (decide ((r2:Int)≥0)) (
cl Pg F.cp [a0.v,b0.v] w7.drew [.one .slice] λ(s1:Sl) w8=>
cl Pg F.ax [s1.v,.bool a1] w8 [.agg [.slice,.bool]] λ(r3:Sl)(r4:Bool) w9=>
nwv w9 λw10=>
R (.agg #[r3.v,.bool r4]) w10) (
cl Pg F.cp [b0.v,a0.v] w7.drew [.one .slice] λ(s2:Sl) w11=>
cl Pg F.ax [s2.v,.bool b1] w11 [.agg [.slice,.bool]] λ(r5:Sl)(r6:Bool) w12=>
nwv w12 λw13=>
R (.agg #[r5.v,.bool r6]) w13))
theorem Ct.bR(h:Sh.bR a0 a1 b0 b1 (Rt X [.agg [.slice,.bool]] K w) w.here):Ct Pg F.bR [.agg #[a0.v,.bool a1],.agg #[b0.v,.bool b1]] w X [.agg [.slice,.bool]] K:=
 cod (Sh.bR a0 a1 b0 b1) 40 [(2,40),(3,42),(4,44)] [(40,2),(42,2),(44,2)] [] f64 h
def Sh.dw(a0:Sl)(a1:Bool)(b0:Sl)(b1:Bool)(R:Value→TW→Prop)(w:TW):Prop:=
nwv w λw1=>
nwv w1 λw2=>
cl Pg F.aK [.agg #[a0.v,.bool a1],.agg #[b0.v,.bool b1]] w2 [.agg [.slice,.bool]] λ(r:Sl)(r1:Bool) w3=>
nwv w3 λw4=>
nwv w4 λw5=>
cl Pg F.aA [.agg #[r.v,.bool r1]] w5 [.one .bool] λ(ok:Bool) w6=>
cond ok (
R (.int .i64 0) w6) (
cond r1 (
R (.int .i64 (-1)) w6) (
R (.int .i64 1) w6))
theorem Ct.dw{K:KT [.one (.int .i64)]}(h:Sh.dw a0 a1 b0 b1 (Rt X [.one (.int .i64)] K w) w.here):Ct Pg F.dw [.agg #[a0.v,.bool a1],.agg #[b0.v,.bool b1]] w X [.one (.int .i64)] K:=
 cod (Sh.dw a0 a1 b0 b1) 15 [(2,15),(3,17),(5,19)] [(15,2),(17,2),(19,2)] [] f75 h
def Sh.ao(n:Int)(R:Value→TW→Prop)(w:TW):Prop:=
nwv w λw1=>
cond (decide ((n:Int)<0)) (
bnd (wi (0-n)) λn1=>
bnd (wu (n1)) λn2=>
cl Pg F.cd [.int .u64 n2] w1 [.one .slice] λ(s:Sl) w2=>
cl Pg F.ax [s.v,.bool true] w2 [.agg [.slice,.bool]] λ(r:Sl)(r1:Bool) w3=>
nwv w3 λw4=>
R (.agg #[r.v,.bool r1]) w4) (
bnd (wu (n)) λn3=>
cl Pg F.cd [.int .u64 n3] w1 [.one .slice] λ(s1:Sl) w5=>
cl Pg F.ax [s1.v,.bool false] w5 [.agg [.slice,.bool]] λ(r2:Sl)(r3:Bool) w6=>
nwv w6 λw7=>
R (.agg #[r2.v,.bool r3]) w7)
theorem Ct.ao{n:Int}(h:Sh.ao n (Rt X [.agg [.slice,.bool]] K w) w.here):Ct Pg F.ao [.int .i64 n] w X [.agg [.slice,.bool]] K:=
 cod (Sh.ao n) 14 [(2,14)] [(14,2)] [] f76 h
def Sh.aK(a0:Sl)(a1:Bool)(b0:Sl)(b1:Bool)(R:Value→TW→Prop)(w:TW):Prop:=
nwv w λw1=>
nwv w1 λw2=>
nwv w2 λw3=>
cl Pg F.aL [.agg #[b0.v,.bool b1]] w3.drew [.agg [.slice,.bool]] λ(r:Sl)(r1:Bool) w4=>
cl Pg F.bR [.agg #[a0.v,.bool a1],.agg #[r.v,.bool r1]] w4 [.agg [.slice,.bool]] λ(r2:Sl)(r3:Bool) w5=>
nwv w5 λw6=>
R (.agg #[r2.v,.bool r3]) w6
theorem Ct.aK(h:Sh.aK a0 a1 b0 b1 (Rt X [.agg [.slice,.bool]] K w) w.here):Ct Pg F.aK [.agg #[a0.v,.bool a1],.agg #[b0.v,.bool b1]] w X [.agg [.slice,.bool]] K:=
 cod (Sh.aK a0 a1 b0 b1) 9 [(2,9),(3,11),(4,13)] [(9,2),(11,2),(13,2)] [] f77 h
def Sh.aO(a0:Sl)(a1:Bool)(b0:Sl)(b1:Bool)(R:Value→TW→Prop)(w:TW):Prop:=
nwv w λw1=>
nwv w1 λw2=>
nwv w2 λw3=>
nwv w3 λw4=>
cl Pg F.cA [a0.v,b0.v] w4 [.one .slice,.one .slice] λ(s:Sl)(s1:Sl) w5=>
cl Pg F.ax [s.v,.bool (!(a1 == b1))] w5.drew [.agg [.slice,.bool]] λ(r:Sl)(r1:Bool) w6=>
cl Pg F.ax [s1.v,.bool a1] w6 [.agg [.slice,.bool]] λ(r2:Sl)(r3:Bool) w7=>
nwv w7 λw8=>
nwv w8 λw9=>
R (.tuple #[.agg #[r.v,.bool r1],.agg #[r2.v,.bool r3]]) w9
theorem Ct.aO{K:KT [.agg [.slice,.bool],.agg [.slice,.bool]]}(h:Sh.aO a0 a1 b0 b1 (Rt X [.agg [.slice,.bool],.agg [.slice,.bool]] K w) w.here):Ct Pg F.aO [.agg #[a0.v,.bool a1],.agg #[b0.v,.bool b1]] w X [.agg [.slice,.bool],.agg [.slice,.bool]] K:=
 cod (Sh.aO a0 a1 b0 b1) 27 [(2,27),(3,29),(4,31),(5,33)] [(27,2),(29,2),(31,2),(33,2)] [] f82 h
def Sh.aA(a0:Sl)(a1:Bool)(R:Value→TW→Prop)(w:TW):Prop:=
nwv w λw1=>
cl Pg F.bh [a0.v] w1 [.one .bool] λ(ok:Bool) w2=>
R (.bool ok) w2
theorem Ct.aA{K:KT [.one .bool]}(h:Sh.aA a0 a1 (Rt X [.one .bool] K w) w.here):Ct Pg F.aA [.agg #[a0.v,.bool a1]] w X [.one .bool] K:=
 cod (Sh.aA a0 a1) 6 [(1,6)] [(6,2)] [] f83 h
end
end Go.Proofs.YtpbimnlggalnfaaGreatDoor.Zg
