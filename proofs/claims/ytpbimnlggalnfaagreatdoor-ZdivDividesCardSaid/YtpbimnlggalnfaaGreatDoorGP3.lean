/- A part of the proofs of this seat's laws. -/
import Derived.Test.YtpbimnlggalnfaaGreatDoorGC
set_option linter.unusedVariables false
set_option linter.unusedSimpArgs false
set_option linter.unnecessarySimpa false
namespace Go.Proofs.YtpbimnlggalnfaaGreatDoor.Zg
open Go.RowKit
section
set_option maxRecDepth 100000
open Go.Proofs.Tryz
variable {a a0 b c0:Sl} {e0:Option Addr} {a1:Bool} {p:Int}
def Sh.ba(a:Sl):PR:=λR w=>
mks w (a.n:Int) (a.n:Int) T.af 32 [.slice none 0 0,.bool false] λs w1=>
Jn [] (λJ0=>
Lp [.int .i64] (λ(x:Int) w2 C0=>
cond (decide ((x:Int)<(a.n:Int))) (
ixa a x 2 λa1=>
ldc (.slice) w2 (a1.add 0) λ(v:Sl)=>
ldc (.bool) w2 (a1.add 1) λ(v1:Bool)=>
nwv w2 λw3=>
nwv w3 λw4=>
cl Pg F.i8 [.agg #[v.v,.bool v1]] w4 [.agg [.slice,.bool]] λ(r:Sl)(r1:Bool) w5=>
ixa s x 2 λa2=>
stc w5 a2 r.v λw6=>
stc w6 (a2.add 1) (.bool r1) λw7=>
bnd (wi (x+1)) λn=>
C0 n w7) (
J0 w2)) 0 w1) fun  w8=>
cl Pg F.cH [s.v] w8 [.one .slice] λ(s1:Sl) w9=>
R (s1.v) w9
theorem Ct.ba:CG (Sh.ba a) F.ba [a.v] [.one .slice]:=cod 24 [(5,24)] [(24,2)] [(2,0,[]),(3,3,[(11,.one (.int .i64))])] f54
def Sh.cI(e0:Option Addr)(a:Sl)(c0:Sl)(c1:Bool):PR:=λR w=>
nwv w λw1=>
cl Pg F.aB [c0.v] w1 [.one .bool] λ(ok:Bool) w2=>
cond ok (
R (.tuple #[.slice none 0 0,.int .i64 2]) w2) (
cl Pg F.cH [a.v] w2 [.one .slice] λ(s:Sl) w3=>
Jn [.slice] (λJ0=>
Lp [.slice,.int .i64,.slice,.bool] (λ(out:Sl)(x:Int)(c2:Sl)(c3:Bool) w4 C0=>
cond (decide ((x:Int)<(s.n:Int))) (
ixa s x 2 λa1=>
ldc (.slice) w4 (a1.add 0) λ(v:Sl)=>
ldc (.bool) w4 (a1.add 1) λ(v1:Bool)=>
nwv w4 λw5=>
nwv w5 λw6=>
nck e0 λa2=>
ldc (.ptr) w6.drew a2 λ(v2:OA)=>
nck v2 λa3=>
ldc (.ptr) w6.drew a3 λ(v3:OA)=>
nck v3 λa4=>
ldc (.ptr) w6.drew a4 λ(v4:OA)=>
nck v4 λa5=>
ldc (.ptr) w6.drew a5 λ(v5:OA)=>
nck v5 λa6=>
ldc (.ptr) w6.drew a6 λ(v6:OA)=>
(cl Pg F.aE [.pointer v6,.agg #[v.v,.bool v1],.agg #[c2.v,.bool c3]] w6.drew [.agg [.slice,.bool],.one (.int .i64)] λ(r:Sl)(r1:Bool)(r2:Int) w7=>
hld w7 [(a5,.pointer v5),(a4,.pointer v4),(a3,.pointer v3),(a2,.pointer v2)] <|
nwv w7 λw8=>
hld w8 [(a5,.pointer v5),(a4,.pointer v4),(a3,.pointer v3),(a2,.pointer v2)] <|
nwv w8 λw9=>
cond ((r2:Int) != 0) (
R (.tuple #[.slice none 0 0,.int .i64 r2]) w9) (
nwb w9 [r.v,.bool r1] T.af λb w10=>
apd w10 T.af 2 32 out ⟨(some ⟨b,0,none⟩),1,1⟩ λs1 w11=>
bnd (wi (x+1)) λn=>
C0 s1 n c2 c3 w11))∧
(nwv w6.drew λw12=>
hld w12 [(a6,.pointer v6),(a5,.pointer v5),(a4,.pointer v4),(a3,.pointer v3),(a2,.pointer v2)] <|
cl Pg F.aE [.pointer v6,.agg #[v.v,.bool v1],.agg #[c2.v,.bool c3]] w12 [.agg [.slice,.bool],.one (.int .i64)] λ(r3:Sl)(r4:Bool)(r5:Int) w13=>
hld w13 [(a5,.pointer v5),(a4,.pointer v4),(a3,.pointer v3),(a2,.pointer v2)] <|
nwv w13 λw14=>
cond ((r5:Int) != 0) (
R (.tuple #[.slice none 0 0,.int .i64 r5]) w14) (
nwb w14 [r3.v,.bool r4] T.af λb1 w15=>
apd w15 T.af 2 32 out ⟨(some ⟨b1,0,none⟩),1,1⟩ λs2 w16=>
bnd (wi (x+1)) λn1=>
C0 s2 n1 c2 c3 w16))) (
J0 out w4)) Sl.nil 0 c0 c1 w3) λ(out1:Sl) w17=>
R (.tuple #[out1.v,.int .i64 0]) w17)
theorem Ct.cI{c1:Bool}:CG (Sh.cI e0 a c0 c1) F.cI [.pointer e0,a.v,.agg #[c0.v,.bool c1]] [.one .slice,.one (.int .i64)]:=cod 54 [(5,54),(10,56),(11,58)] [(54,2),(56,2),(58,2)] [(2,0,[(8,.one .slice)]),(3,5,[(8,.one .slice),(19,.one (.int .i64)),(54,.one .slice),(55,.one .bool)])] f56
def Sh.fF(l:Sl):PR:=λR w=>
Jn [.slice] (λJ0=>
Lp [.slice,.int .i64] (λ(out:Sl)(x:Int) w1 C0=>
cond (decide ((x:Int)<(l.n:Int))) (
ixa l x 1 λa=>
ldc (.slice) w1 a λ(v:Sl)=>
Jn [.slice] (λJ1=>
Lp [.slice,.int .i64] (λ(out1:Sl)(x1:Int) w2 C1=>
cond (decide ((x1:Int)<(v.n:Int))) (
ixa v x1 2 λa1=>
ldc (.slice) w2 (a1.add 0) λ(v1:Sl)=>
ldc (.bool) w2 (a1.add 1) λ(v2:Bool)=>
nwv w2 λw3=>
nwv w3 λw4=>
Jn [.slice,.slice,.bool] (λJ2=>
cond ((x1:Int) == (out1.n:Int)) (
nwb w4 [.slice none 0 0,.bool false] T.af λb w5=>
apd w5 T.af 2 32 out1 ⟨(some ⟨b,0,none⟩),1,1⟩ λs w6=>
J2 s v1 v2 w6) (
J2 out1 v1 v2 w4)) λ(out2:Sl)(c:Sl)(c1:Bool) w7=>
ixa out2 x1 2 λa2=>
ldc (.slice) w7.drew (a2.add 0) λ(v3:Sl)=>
ldc (.bool) w7.drew (a2.add 1) λ(v4:Bool)=>
cl Pg F.jE [.agg #[v3.v,.bool v4],.agg #[c.v,.bool c1]] w7.drew [.agg [.slice,.bool]] λ(r:Sl)(r1:Bool) w8=>
ixa out2 x1 2 λa3=>
stc w8 a3 r.v λw9=>
stc w9 (a3.add 1) (.bool r1) λw10=>
bnd (wi (x1+1)) λn=>
C1 out2 n w10) (
J1 out1 w2)) out 0 w1) λ(out3:Sl) w11=>
bnd (wi (x+1)) λn1=>
C0 out3 n1 w11) (
J0 out w1)) Sl.nil 0 w) λ(out4:Sl) w12=>
cl Pg F.cH [out4.v] w12 [.one .slice] λ(s1:Sl) w13=>
R (s1.v) w13
theorem Ct.fF{l:Sl}:CG (Sh.fF l) F.fF [l.v] [.one .slice]:=cod 42 [(7,42)] [(42,2)] [(2,0,[(3,.one .slice)]),(3,3,[(3,.one .slice),(10,.one (.int .i64))]),(2,2,[(3,.one .slice)]),(3,6,[(3,.one .slice),(16,.one (.int .i64))]),(1,9,[(3,.one .slice),(42,.one .slice),(43,.one .bool)])] f73
def Sh.aC(e0:Option Addr)(a:Sl)(c0:Sl)(c1:Bool):PR:=λR w=>
nwv w λw1=>
mks w1 (a.n:Int) (a.n:Int) T.af 32 [.slice none 0 0,.bool false] λs w2=>
Jn [] (λJ0=>
Lp [.int .i64,.slice,.bool] (λ(x:Int)(c2:Sl)(c3:Bool) w3 C0=>
cond (decide ((x:Int)<(a.n:Int))) (
ixa a x 2 λa1=>
ldc (.slice) w3 (a1.add 0) λ(v:Sl)=>
ldc (.bool) w3 (a1.add 1) λ(v1:Bool)=>
nwv w3 λw4=>
nwv w4 λw5=>
cl Pg F.bF [.pointer e0,.agg #[v.v,.bool v1],.agg #[c2.v,.bool c3]] w5 [.agg [.slice,.bool]] λ(r:Sl)(r1:Bool) w6=>
ixa s x 2 λa2=>
stc w6 a2 r.v λw7=>
stc w7 (a2.add 1) (.bool r1) λw8=>
bnd (wi (x+1)) λn=>
C0 n c2 c3 w8) (
J0 w3)) 0 c0 c1 w2) fun  w9=>
cl Pg F.cH [s.v] w9 [.one .slice] λ(s1:Sl) w10=>
R (s1.v) w10
theorem Ct.aC{c1:Bool}:CG (Sh.aC e0 a c0 c1) F.aC [.pointer e0,a.v,.agg #[c0.v,.bool c1]] [.one .slice]:=cod 30 [(5,30),(9,32)] [(30,2),(32,2)] [(2,0,[]),(3,3,[(15,.one (.int .i64)),(30,.one .slice),(31,.one .bool)])] f74
def Sh.dA(a:Sl)(b:Sl):PR:=λR w=>
bnd (if ((b.n:Int):Int)>(a.n:Int) then (b.n:Int) else (a.n:Int)) λn=>
mks w n n T.af 32 [.slice none 0 0,.bool false] λs w1=>
Jn [] (λJ0=>
Lp [.int .i64] (λ(x:Int) w2 C0=>
cond (decide ((x:Int)<(s.n:Int))) (
cl Pg F.jU [a.v,.int .i64 x] w2 [.agg [.slice,.bool]] λ(r:Sl)(r1:Bool) w3=>
cl Pg F.jU [b.v,.int .i64 x] w3 [.agg [.slice,.bool]] λ(r2:Sl)(r3:Bool) w4=>
cl Pg F.kD [.agg #[r.v,.bool r1],.agg #[r2.v,.bool r3]] w4 [.agg [.slice,.bool]] λ(r4:Sl)(r5:Bool) w5=>
ixa s x 2 λa1=>
stc w5 a1 r4.v λw6=>
stc w6 (a1.add 1) (.bool r5) λw7=>
bnd (wi (x+1)) λn1=>
C0 n1 w7) (
J0 w2)) 0 w1) fun  w8=>
cl Pg F.cH [s.v] w8 [.one .slice] λ(s1:Sl) w9=>
R (s1.v) w9
theorem Ct.dA:CG (Sh.dA a b) F.dA [a.v,b.v] [.one .slice]:=cod 31 [] [] [(2,0,[]),(3,3,[(15,.one (.int .i64))])] f79
def Sh.lk(t:HL I11):PR:=λR w=>
nwv w λw1=>
cl Pg F.ko [.agg (aM I11 t).toArray] w1 [.one .ptr] λ(p:OA) w2=>
nwb w2 [.pointer p] T.wm λb w3=>
R (.pointer (some ⟨b,0,none⟩)) w3
theorem Ct.lk{t:HL I11}:CG (Sh.lk t) F.lk [.agg (aM I11 t).toArray] [.one .ptr]:=cod 7 [(1,7)] [(7,11)] [] f86
def Sh.cH(a:Sl):PR:=λR w=>
Jn [.slice] (λJ0=>
Lp [.slice] (λ(a1:Sl) w1 C0=>
Jn [.bool] (λJ1=>
cond (decide (((a1.n:Int):Int)>0)) (
bnd (wi ((a1.n:Int)-1)) λn=>
ixa a1 n 2 λa2=>
ldc (.slice) w1 a2 λ(v:Sl)=>
cl Pg F.aB [v.v] w1 [.one .bool] λ(ok:Bool) w2=>
J1 ok w2) (
J1 false w1)) λ(x:Bool) w3=>
cond x (
bnd (wi ((a1.n:Int)-1)) λn1=>
slc a1 0 n1 2 λs=>
C0 s w3) (
J0 a1 w3)) a w) λ(a3:Sl) w4=>
R (a3.v) w4
theorem Ct.cH:CG (Sh.cH a) F.cH [a.v] [.one .slice]:=cod 22 [] [] [(2,0,[(0,.one .slice)]),(3,1,[(0,.one .slice)]),(0,1,[(15,.one .bool)])] f88
def Sh.jl(a:Sl):PR:=λR w=>
cl Pg F.cH [a.v] w [.one .slice] λ(s:Sl) w1=>
bnd (wi ((s.n:Int)-1)) λn=>
R (.int .i64 n) w1
theorem Ct.jl:CG (Sh.jl a) F.jl [a.v] [.one (.int .i64)]:=cod 7 [] [] [] f95
def Sh.cJ(e0:Option Addr)(a:Sl)(b:Sl):PR:=λR w=>
cl Pg F.cH [a.v] w [.one .slice] λ(s:Sl) w1=>
cl Pg F.cH [b.v] w1 [.one .slice] λ(s1:Sl) w2=>
Jn [.bool] (λJ0=>
cond (((s.n:Int):Int) == 0) (
J0 true w2) (
J0 (((s1.n:Int):Int) == 0) w2)) λ(x:Bool) w3=>
cond x (
R (.slice none 0 0) w3) (
bnd (wi ((s.n:Int)+(s1.n:Int))) λn=>
bnd (wi (n-1)) λn1=>
mks w3 n1 n1 T.af 32 [.slice none 0 0,.bool false] λs2 w4=>
Jn [] (λJ1=>
Lp [.int .i64] (λ(x1:Int) w5 C0=>
cond (decide ((x1:Int)<(s.n:Int))) (
ixa s x1 2 λa1=>
ldc (.slice) w5 (a1.add 0) λ(v:Sl)=>
ldc (.bool) w5 (a1.add 1) λ(v1:Bool)=>
nwv w5 λw6=>
nwv w6 λw7=>
Jn [] (λJ2=>
Lp [.int .i64,.slice,.bool] (λ(x2:Int)(x3:Sl)(x4:Bool) w8 C1=>
cond (decide ((x2:Int)<(s1.n:Int))) (
ixa s1 x2 2 λa2=>
ldc (.slice) w8 (a2.add 0) λ(v2:Sl)=>
ldc (.bool) w8 (a2.add 1) λ(v3:Bool)=>
nwv w8 λw9=>
nwv w9 λw10=>
bnd (wi (x1+x2)) λn2=>
bnd (wi (x1+x2)) λn3=>
ixa s2 n3 2 λa3=>
ldc (.slice) w10.drew (a3.add 0) λ(v4:Sl)=>
ldc (.bool) w10.drew (a3.add 1) λ(v5:Bool)=>
cl Pg F.bF [.pointer e0,.agg #[x3.v,.bool x4],.agg #[v2.v,.bool v3]] w10.drew [.agg [.slice,.bool]] λ(r:Sl)(r1:Bool) w11=>
hld w11 [(a3.add 0,v4.v),(a3.add 1,.bool v5)] <|
cl Pg F.jE [.agg #[v4.v,.bool v5],.agg #[r.v,.bool r1]] w11 [.agg [.slice,.bool]] λ(r2:Sl)(r3:Bool) w12=>
ixa s2 n2 2 λa4=>
stc w12 a4 r2.v λw13=>
stc w13 (a4.add 1) (.bool r3) λw14=>
bnd (wi (x2+1)) λn4=>
C1 n4 x3 x4 w14) (
J2 w8)) 0 v v1 w7) fun  w15=>
bnd (wi (x1+1)) λn5=>
C0 n5 w15) (
J1 w5)) 0 w4) fun  w16=>
cl Pg F.cH [s2.v] w16 [.one .slice] λ(s3:Sl) w17=>
R (s3.v) w17)
theorem Ct.cJ:CG (Sh.cJ e0 a b) F.cJ [.pointer e0,a.v,b.v] [.one .slice]:=cod 65 [(9,65),(11,67)] [(65,2),(67,2)] [(0,2,[(23,.one .bool)]),(2,0,[]),(3,6,[(33,.one (.int .i64))]),(2,2,[]),(3,9,[(40,.one (.int .i64)),(65,.one .slice),(66,.one .bool)])] f96
def Sh.bF(e0:Option Addr)(a0:Sl)(a1:Bool)(b0:Sl)(b1:Bool):PR:=λR w=>
nwv w λw1=>
nwv w1 λw2=>
nwv w2 λw3=>
nck e0 λa2=>
ldc (.ptr) w3.drew a2 λ(v:OA)=>
nck v λa3=>
ldc (.ptr) w3.drew a3 λ(v1:OA)=>
nck v1 λa4=>
ldc (.ptr) w3.drew a4 λ(v2:OA)=>
nck v2 λa5=>
ldc (.ptr) w3.drew a5 λ(v3:OA)=>
nck v3 λa6=>
ldc (.ptr) w3.drew a6 λ(v4:OA)=>
nck v4 λa7=>
ldc (.ptr) w3.drew a7 λ(v5:OA)=>
nck v5 λa8=>
ldc (.ptr) w3.drew a8 λ(v6:OA)=>
nck v6 λa9=>
ldc (.ptr) w3.drew a9 λ(v7:OA)=>
nck v7 λa10=>
ldc (.ptr) w3.drew a10 λ(v8:OA)=>
nck v8 λa11=>
ldc (.ptr) w3.drew a11 λ(v9:OA)=>
nck v9 λa12=>
ldc (.ptr) w3.drew a12 λ(v10:OA)=>
cl Pg F.au [.pointer v10,a0.v,b0.v] w3.drew [.one .slice] λ(s:Sl) w4=>
hld w4 [(a11,.pointer v9),(a10,.pointer v8),(a9,.pointer v7),(a8,.pointer v6),(a7,.pointer v5),(a6,.pointer v4),(a5,.pointer v3),(a4,.pointer v2),(a3,.pointer v1),(a2,.pointer v)] <|
Jn [.slice,.bool] (λJ0=>
cond (!(a1 == b1)) (
cl Pg F.aB [s.v] w4 [.one .bool] λ(ok:Bool) w5=>
nwv w5 λw6=>
J0 s (!ok) w6) (
nwv w4 λw7=>
J0 s false w7)) λ(x:Sl)(x1:Bool) w8=>
R (.agg #[x.v,.bool x1]) w8
theorem Ct.bF{b0:Sl}{b1:Bool}:CG (Sh.bF e0 a0 a1 b0 b1) F.bF [.pointer e0,.agg #[a0.v,.bool a1],.agg #[b0.v,.bool b1]] [.agg [.slice,.bool]]:=cod 59 [(4,59),(5,61),(6,63)] [(59,2),(61,2),(63,2)] [(0,2,[(63,.one .slice),(64,.one .bool)])] f104
def Sh.jU(a:Sl)(i:Int):PR:=λR w=>
nwv w λw1=>
cond (decide ((i:Int)<(a.n:Int))) (
ixa a i 2 λa1=>
ldc (.slice) w1 (a1.add 0) λ(v:Sl)=>
ldc (.bool) w1 (a1.add 1) λ(v1:Bool)=>
nwv w1 λw2=>
R (.agg #[v.v,.bool v1]) w2) (
nwv w1 λw3=>
R (.agg #[.slice none 0 0,.bool false]) w3)
theorem Ct.jU{i:Int}:CG (Sh.jU a i) F.jU [a.v,.int .i64 i] [.agg [.slice,.bool]]:=cod 14 [(4,14)] [(14,2)] [] f106
def Sh.fY(a:Sl):PR:=λR w=>
Jn [.int .i64] (λJ0=>
Lp [.int .i64,.int .i64] (λ(n:Int)(x:Int) w1 C0=>
cond (decide ((x:Int)<(a.n:Int))) (
ixa a x 2 λa1=>
ldc (.slice) w1 (a1.add 0) λ(v:Sl)=>
ldc (.bool) w1 (a1.add 1) λ(_:Bool)=>
nwv w1 λw2=>
nwv w2 λw3=>
cl Pg F.bo [v.v] w3 [.one (.int .i64)] λ(r:Int) w4=>
bnd (if (r:Int)>n then r else n) λn1=>
bnd (wi (x+1)) λn2=>
C0 n1 n2 w4) (
J0 n w1)) 0 0 w) λ(n3:Int) w5=>
R (.int .i64 n3) w5
theorem Ct.fY:CG (Sh.fY a) F.fY [a.v] [.one (.int .i64)]:=cod 19 [(5,19)] [(19,2)] [(2,0,[(3,.one (.int .i64))]),(3,3,[(3,.one (.int .i64)),(8,.one (.int .i64))])] f138
def Sh.fX(a:Sl)(p:Int):PR:=λR w=>
Jn [.bool] (λJ0=>
cond (decide ((p:Int)<2)) (
J0 true w) (
J0 (decide ((p:Int)≥4611686018427387904)) w)) λ(x:Bool) w1=>
cond x (
R (.tuple #[.slice none 0 0,.int .i64 3]) w1) (
mks w1 (a.n:Int) (a.n:Int) T.an 8 [.int .u64 0] λs w2=>
Jn [] (λJ1=>
Lp [.int .i64] (λ(x1:Int) w3 C0=>
cond (decide ((x1:Int)<(a.n:Int))) (
ixa a x1 2 λa1=>
ldc (.slice) w3 (a1.add 0) λ(v:Sl)=>
ldc (.bool) w3 (a1.add 1) λ(v1:Bool)=>
nwv w3 λw4=>
nwv w4 λw5=>
cl Pg F.gp [.agg #[v.v,.bool v1],.int .u64 p] w5 [.one (.int .u64)] λ(r:Int) w6=>
ixa s x1 1 λa2=>
stc w6 a2 (.int .u64 r) λw7=>
bnd (wi (x1+1)) λn=>
C0 n w7) (
J1 w3)) 0 w2) fun  w8=>
Jn [.slice] (λJ2=>
Lp [.slice] (λ(out:Sl) w9 C1=>
Jn [.bool] (λJ3=>
cond (decide (((out.n:Int):Int)>0)) (
bnd (wi ((out.n:Int)-1)) λn1=>
ixa out n1 1 λa3=>
ldc (.int .u64) w9 a3 λ(v2:Int)=>
J3 ((v2:Int) == 0) w9) (
J3 false w9)) λ(x2:Bool) w10=>
cond x2 (
bnd (wi ((out.n:Int)-1)) λn2=>
slc out 0 n2 1 λs1=>
C1 s1 w10) (
J2 out w10)) s w8) λ(out1:Sl) w11=>
R (.tuple #[out1.v,.int .i64 0]) w11)
theorem Ct.fX:CG (Sh.fX a p) F.fX [a.v,.int .u64 p] [.one .slice,.one (.int .i64)]:=cod 50 [(8,50)] [(50,2)] [(0,1,[(14,.one .bool)]),(2,0,[]),(3,5,[(20,.one (.int .i64))]),(2,2,[(6,.one .slice)]),(3,9,[(6,.one .slice)]),(0,9,[(43,.one .bool)])] f144
def Sh.gp(a0:Sl)(a1:Bool)(p:Int):PR:=λR w=>
nwv w λw1=>
cl Pg F.dx [a0.v,.int .u64 p] w1 [.one .slice,.one (.int .u64),.one (.int .i64)] λ(_:Sl)(r:Int)(_:Int) w2=>
Jn [.bool] (λJ0=>
cond a1 (
J0 (decide ((r:Int)>0)) w2) (
J0 false w2)) λ(x:Bool) w3=>
Jn [.int .u64] (λJ1=>
cond x (
bnd (wu (p-r)) λn=>
J1 n w3) (
J1 r w3)) λ(r2:Int) w4=>
R (.int .u64 r2) w4
theorem Ct.gp:CG (Sh.gp a0 a1 p) F.gp [.agg #[a0.v,.bool a1],.int .u64 p] [.one (.int .u64)]:=cod 26 [(2,26)] [(26,2)] [(0,2,[(21,.one .bool)]),(1,3,[(6,.one (.int .u64))])] f174
end
section
set_option maxRecDepth 100000
open Go.Proofs.Tryz
def Sh.kj(t:HL I11):PR:=λR w=>
nwv w λw1=>
cl Pg F.ml [.agg (aM I11 t).toArray] w1 [.one .ptr] λ(p:OA) w2=>
nwb w2 [.pointer p] T.wj λb w3=>
R (.pointer (some ⟨b,0,none⟩)) w3
theorem Ct.kj{t:HL I11}:CG (Sh.kj t) F.kj [.agg (aM I11 t).toArray] [.one .ptr]:=cod 7 [(1,7)] [(7,11)] [] f198
end
section
set_option maxRecDepth 100000
open Go.Proofs.Tryz
variable {a n p:Int}
def Sh.jT(n:Int):PR:=λR w=>
cond (decide ((n:Int)<2)) (
R (.bool false) w) (
nwv w λw1=>
nwv w1 λw2=>
Jn [.int .u64,.int .u64,.int .u64,.int .u64,.int .u64,.int .u64,.int .u64,.int .u64,.int .u64,.int .u64,.int .u64,.int .u64] (λJ0=>
Lp [.int .i64,.int .u64,.int .u64,.int .u64,.int .u64,.int .u64,.int .u64,.int .u64,.int .u64,.int .u64,.int .u64,.int .u64,.int .u64] (λ(x:Int)(small:Int)(small1:Int)(small2:Int)(small3:Int)(small4:Int)(small5:Int)(small6:Int)(small7:Int)(small8:Int)(small9:Int)(small10:Int)(small11:Int) w3 C0=>
cond (decide ((x:Int)<12)) (
inr x 12 (ixq (.int .u64) [.int .u64 2,.int .u64 3,.int .u64 5,.int .u64 7,.int .u64 11,.int .u64 13,.int .u64 17,.int .u64 19,.int .u64 23,.int .u64 29,.int .u64 31,.int .u64 37] (Int.toNat x*1) λ(v:Int)=>
dV n v λn1=>
cond ((n1:Int) == 0) (
R (.bool ((n:Int) == v)) w3) (
bnd (wi (x+1)) λn2=>
C0 n2 small small1 small2 small3 small4 small5 small6 small7 small8 small9 small10 small11 w3))) (
J0 small small1 small2 small3 small4 small5 small6 small7 small8 small9 small10 small11 w3)) 0 2 3 5 7 11 13 17 19 23 29 31 37 w2) λ(small12:Int)(small13:Int)(small14:Int)(small15:Int)(small16:Int)(small17:Int)(small18:Int)(small19:Int)(small20:Int)(small21:Int)(small22:Int)(small23:Int) w4=>
bnd (wu (n-1)) λn3=>
cl Pg F.bH [.int .u64 n3] w4 [.one (.int .i64)] λ(r:Int) w5=>
bnd (wu (n-1)) λn4=>
bnd (wu (r)) λn5=>
gJ .u64 n4 n5 λn6=>
Jn [] (λJ1=>
Lp [.int .i64] (λ(x1:Int) w6 C1=>
cond (decide ((x1:Int)<12)) (
inr x1 12 (ixq (.int .u64) [.int .u64 small12,.int .u64 small13,.int .u64 small14,.int .u64 small15,.int .u64 small16,.int .u64 small17,.int .u64 small18,.int .u64 small19,.int .u64 small20,.int .u64 small21,.int .u64 small22,.int .u64 small23] (Int.toNat x1*1) λ(v1:Int)=>
cl Pg F.go [.int .u64 v1,.int .u64 n,.int .u64 n6,.int .i64 r] w6 [.one .bool] λ(ok:Bool) w7=>
cond ok (
R (.bool false) w7) (
bnd (wi (x1+1)) λn7=>
C1 n7 w7))) (
J1 w6)) 0 w5) fun  w8=>
R (.bool true) w8)
theorem Ct.jT:CG (Sh.jT n) F.jT [.int .u64 n] [.one .bool]:=cod 43 [(3,43)] [(43,12)] [(2,0,[(43,.one (.int .u64)),(44,.one (.int .u64)),(45,.one (.int .u64)),(46,.one (.int .u64)),(47,.one (.int .u64)),(48,.one (.int .u64)),(49,.one (.int .u64)),(50,.one (.int .u64)),(51,.one (.int .u64)),(52,.one (.int .u64)),(53,.one (.int .u64)),(54,.one (.int .u64))]),(3,5,[(14,.one (.int .i64)),(43,.one (.int .u64)),(44,.one (.int .u64)),(45,.one (.int .u64)),(46,.one (.int .u64)),(47,.one (.int .u64)),(48,.one (.int .u64)),(49,.one (.int .u64)),(50,.one (.int .u64)),(51,.one (.int .u64)),(52,.one (.int .u64)),(53,.one (.int .u64)),(54,.one (.int .u64))]),(2,2,[]),(3,13,[(34,.one (.int .i64))])] f143
def Sh.go(a:Int)(n:Int)(d:Int)(s:Int):PR:=λR w=>
dV a n λn1=>
cl Pg F.jK [.int .u64 n1,.int .u64 d,.int .u64 n] w [.one (.int .u64)] λ(r:Int) w1=>
Jn [.bool] (λJ0=>
cond ((r:Int) == 0) (
J0 true w1) (
cond ((r:Int) == 1) (
J0 true w1) (
bnd (wu (n-1)) λn2=>
J0 ((r:Int) == n2) w1))) λ(x:Bool) w2=>
cond x (
R (.bool false) w2) (
bnd (wi (s-1)) λn3=>
Jn [] (λJ1=>
Lp [.int .u64,.int .i64] (λ(x1:Int)(x2:Int) w3 C0=>
cond (decide ((x2:Int)<n3)) (
cl Pg F.iT [.int .u64 x1,.int .u64 x1,.int .u64 n] w3 [.one (.int .u64)] λ(r1:Int) w4=>
bnd (wu (n-1)) λn4=>
cond ((r1:Int) == n4) (
R (.bool false) w4) (
bnd (wi (x2+1)) λn5=>
C0 r1 n5 w4)) (
J1 w3)) r 0 w2) fun  w5=>
R (.bool true) w5)
theorem Ct.go{d:Int}{s:Int}:CG (Sh.go a n d s) F.go [.int .u64 a,.int .u64 n,.int .u64 d,.int .i64 s] [.one .bool]:=cod 41 [] [] [(0,2,[(27,.one .bool)]),(2,0,[]),(3,5,[(9,.one (.int .u64)),(30,.one (.int .i64))])] f173
def Sh.jK(a:Int)(k:Int)(n:Int):PR:=λR w=>
dV 1 n λn1=>
Jn [.int .u64] (λJ0=>
Lp [.int .u64,.int .u64,.int .u64] (λ(a1:Int)(k1:Int)(out:Int) w1 C0=>
cond (decide ((k1:Int)>0)) (
dV k1 2 λn2=>
Jn [.int .u64] (λJ1=>
cond ((n2:Int) == 1) (
cl Pg F.iT [.int .u64 out,.int .u64 a1,.int .u64 n] w1 [.one (.int .u64)] λ(r:Int) w2=>
J1 r w2) (
J1 out w1)) λ(out1:Int) w3=>
cl Pg F.iT [.int .u64 a1,.int .u64 a1,.int .u64 n] w3 [.one (.int .u64)] λ(r1:Int) w4=>
d9 .u64 k1 2 λn3=>
C0 r1 n3 out1 w4) (
J0 out w1)) a k n1 w) λ(out2:Int) w5=>
R (.int .u64 out2) w5
theorem Ct.jK{k:Int}:CG (Sh.jK a k n) F.jK [.int .u64 a,.int .u64 k,.int .u64 n] [.one (.int .u64)]:=cod 26 [] [] [(2,0,[(7,.one (.int .u64))]),(3,2,[(0,.one (.int .u64)),(1,.one (.int .u64)),(7,.one (.int .u64))]),(1,4,[(7,.one (.int .u64))])] f202
def Sh.iT(a:Int)(b:Int)(n:Int):PR:=λR w=>
cl Pg F.aL [.int .u64 a,.int .u64 b] w [.one (.int .u64),.one (.int .u64)] λ(r:Int)(r1:Int) w1=>
cl Pg F.eU [.int .u64 r,.int .u64 r1,.int .u64 n] w1 [.one (.int .u64),.one (.int .u64)] λ(_:Int)(r3:Int) w2=>
R (.int .u64 r3) w2
theorem Ct.iT{b:Int}:CG (Sh.iT a b n) F.iT [.int .u64 a,.int .u64 b,.int .u64 n] [.one (.int .u64)]:=cod 25 [] [] [] f203
def Sh.jk(p:Int):PR:=λR w=>
Jn [.bool] (λJ0=>
dV p 2 λn=>
cond ((n:Int) == 0) (
J0 true w) (
cond (decide ((p:Int)≥4611686018427387904)) (
J0 true w) (
cl Pg F.jT [.int .u64 p] w [.one .bool] λ(ok:Bool) w1=>
J0 (!ok) w1))) λ(x:Bool) w2=>
cond x (
R (.tuple #[.pointer none,.int .i64 3]) w2) (
cl Pg F.i9 [.int .u64 p] w2 [.one .ptr,.one (.int .i64)] λ(p1:OA)(r:Int) w3=>
R (.tuple #[.pointer p1,.int .i64 r]) w3)
theorem Ct.jk:CG (Sh.jk p) F.jk [.int .u64 p] [.one .ptr,.one (.int .i64)]:=cod 20 [] [] [(0,1,[(15,.one .bool)])] f204
def Sh.iU:PR:=λR w=>
nwv w λw1=>
nwv w1 λw2=>
R (.agg #[.int .u64 180143985094819841,.int .i64 55,.int .u64 6,.int .u64 1945555039024054273,.int .i64 56,.int .u64 5,.int .u64 4179340454199820289,.int .i64 57,.int .u64 3]) w2
theorem Ct.iU:CG Sh.iU F.iU [] [.agg [.int .u64,.int .i64,.int .u64,.int .u64,.int .i64,.int .u64,.int .u64,.int .i64,.int .u64]]:=cod 5 [(0,5)] [(5,9)] [] f261
def Sh.jj(p:Int)(log:Int):PR:=λR w=>
cl Pg F.jk [.int .u64 p] w [.one .ptr,.one (.int .i64)] λ(p1:OA)(r:Int) w1=>
cond ((r:Int) != 0) (
R (.tuple #[.int .u64 0,.int .i64 r]) w1) (
Jn [.bool] (λJ0=>
cond (decide ((log:Int)<0)) (
J0 true w1) (
cond (decide ((log:Int)>20)) (
J0 true w1) (
bnd (wu (p-1)) λn=>
bnd (wu (log)) λn1=>
jv .u64 1 n1 λn2=>
dV n n2 λn3=>
J0 ((n3:Int) != 0) w1))) λ(x:Bool) w2=>
cond x (
R (.tuple #[.int .u64 0,.int .i64 1]) w2) (
cond ((log:Int) == 0) (
R (.tuple #[.int .u64 1,.int .i64 0]) w2) (
Jn [.int .u64] (λJ1=>
Lp [.int .u64] (λ(x1:Int) w3 C0=>
bnd (wu (p-1)) λn4=>
d9 .u64 n4 2 λn5=>
cl Pg F.ge [.pointer p1,.int .u64 x1,.int .u64 n5] w3 [.one (.int .u64)] λ(r1:Int) w4=>
bnd (wu (p-1)) λn6=>
cond ((r1:Int) != n6) (
bnd (wu (x1+1)) λn7=>
C0 n7 w4) (
J1 x1 w4)) 2 w2) λ(x2:Int) w5=>
bnd (wu (p-1)) λn8=>
bnd (wu (log)) λn9=>
gJ .u64 n8 n9 λn10=>
cl Pg F.ge [.pointer p1,.int .u64 x2,.int .u64 n10] w5 [.one (.int .u64)] λ(r2:Int) w6=>
R (.tuple #[.int .u64 r2,.int .i64 0]) w6)))
theorem Ct.jj{log:Int}:CG (Sh.jj p log) F.jj [.int .u64 p,.int .i64 log] [.one (.int .u64),.one (.int .i64)]:=cod 53 [] [] [(0,4,[(31,.one .bool)]),(2,0,[(8,.one (.int .u64))]),(3,9,[(8,.one (.int .u64))])] f263
end
section
set_option maxRecDepth 100000
open Go.Proofs.Tryz
def Sh.ki(t:HL I11):PR:=λR w=>
nwv w λw1=>
cl Pg F.kU [.agg (aM I11 t).toArray] w1 [.one .ptr] λ(p:OA) w2=>
nwb w2 [.pointer p] T.wh λb w3=>
R (.pointer (some ⟨b,0,none⟩)) w3
theorem Ct.ki{t:HL I11}:CG (Sh.ki t) F.ki [.agg (aM I11 t).toArray] [.one .ptr]:=cod 7 [(1,7)] [(7,11)] [] f251
end
section
set_option maxRecDepth 100000
open Go.Proofs.Tryz
variable {e0:Option Addr} {d x:Sl} {n:Int}
def Sh.cZ(e0:Option Addr)(d:Sl)(n:Int):PR:=λR w=>
cl Pg F.aB [d.v] w [.one .bool] λ(ok:Bool) w1=>
cond ok (
R (.tuple #[.slice none 0 0,.int .i64 2]) w1) (
Jn [.bool] (λJ0=>
cond (decide ((n:Int)<0)) (
J0 true w1) (
J0 (decide ((n:Int)>1048576)) w1)) λ(x:Bool) w2=>
cond x (
R (.tuple #[.slice none 0 0,.int .i64 1]) w2) (
cl Pg F.bo [d.v] w2 [.one (.int .i64)] λ(r:Int) w3=>
bnd (wi (r-1)) λn1=>
cond (decide ((n:Int)<n1)) (
R (.tuple #[.slice none 0 0,.int .i64 0]) w3) (
cl Pg F.aF [d.v] w3 [.one .slice] λ(s:Sl) w4=>
cl Pg F.bM [.pointer e0,s.v,.int .i64 n] w4 [.one .slice] λ(s1:Sl) w5=>
R (.tuple #[s1.v,.int .i64 0]) w5)))
theorem Ct.cZ:CG (Sh.cZ e0 d n) F.cZ [.pointer e0,d.v,.int .i64 n] [.one .slice,.one (.int .i64)]:=cod 26 [] [] [(0,3,[(15,.one .bool)])] f161
def Sh.bM(e0:Option Addr)(d:Sl)(n:Int):PR:=λR w=>
cl Pg F.bo [d.v] w [.one (.int .i64)] λ(r:Int) w1=>
bnd (wi (n-r)) λn1=>
bnd (wi (n1+1)) λn2=>
Jn [.bool] (λJ0=>
nck e0 λa=>
ldc (.ptr) w1 a λ(v:OA)=>
ch 4 w1 v λ(v5:OA)=>
nck v5 λa6=>
ldc (.int .i64) w1 ((a6.add 3).add 4) λ(v6:Int)=>
cond (decide (((d.n:Int):Int)<v6)) (
J0 true w1) (
J0 (decide ((n2:Int)≤64)) w1)) λ(x:Bool) w2=>
cond x (
nck e0 λa7=>
ldc (.ptr) w2.drew a7 λ(v7:OA)=>
cl Pg F.fQ [.int .i64 n] w2.drew [.one .slice] λ(s:Sl) w3=>
hld w3 [(a7,.pointer v7)] <|
cl Pg F.bL [.pointer v7,s.v,d.v] w3 [.one .slice,.one .slice,.one (.int .i64)] λ(s1:Sl)(_:Sl)(_:Int) w4=>
R (s1.v) w4) (
ch 5 w2 e0 λ(v13:OA)=>
nck v13 λa14=>
cl Pg F.br [.pointer (some a14)] w2 [.one (.int .i64)] λ(_:Int) w5=>
d9 .i64 n2 2 λn3=>
bnd (wi (n3+4)) λn4=>
cl Pg F.bo [d.v] w5 [.one (.int .i64)] λ(r3:Int) w6=>
bnd (wi (r3-n4)) λn5=>
bnd (wi (n5-4)) λn6=>
bnd (if (n6:Int)>0 then n6 else 0) λn7=>
cl Pg F.bU [d.v,.int .i64 n7] w6 [.one .slice] λ(s3:Sl) w7=>
cl Pg F.bo [s3.v] w7 [.one (.int .i64)] λ(r4:Int) w8=>
bnd (wi (r4-1)) λn8=>
bnd (wi (n8+n4)) λn9=>
cl Pg F.bM [.pointer e0,s3.v,.int .i64 n9] w8 [.one .slice] λ(s4:Sl) w9=>
bnd (wi (n-n9)) λn10=>
bnd (wi (n10-n7)) λn11=>
bnd (if (n11:Int)>0 then n11 else 0) λn12=>
cl Pg F.bV [s4.v,.int .i64 n12] w9 [.one .slice] λ(s5:Sl) w10=>
bnd (wi (n9+n7)) λn13=>
bnd (wi (n13-n)) λn14=>
bnd (if (n14:Int)>0 then n14 else 0) λn15=>
cl Pg F.bU [s5.v,.int .i64 n15] w10 [.one .slice] λ(s6:Sl) w11=>
cl Pg F.dH [.pointer e0,d.v,s6.v,.int .i64 n] w11 [.one .slice] λ(s7:Sl) w12=>
ch 5 w12 e0 λ(v19:OA)=>
nck v19 λa21=>
cl Pg F.bq [.pointer (some a21)] w12 [.one (.int .i64)] λ(_:Int) w13=>
cl Pg F.cY [.pointer e0,d.v,s7.v,.int .i64 n] w13 [.one .slice] λ(s8:Sl) w14=>
R (s8.v) w14)
theorem Ct.bM:CG (Sh.bM e0 d n) F.bM [.pointer e0,d.v,.int .i64 n] [.one .slice]:=cod 155 [] [] [(0,2,[(50,.one .bool)])] f193
def Sh.fQ(n:Int):PR:=λR w=>
cl Pg F.aX [.int .u64 1] w [.one .slice] λ(s:Sl) w1=>
cl Pg F.bV [s.v,.int .i64 n] w1 [.one .slice] λ(s1:Sl) w2=>
R (s1.v) w2
theorem Ct.fQ:CG (Sh.fQ n) F.fQ [.int .i64 n] [.one .slice]:=cod 6 [] [] [] f227
def Sh.dH(e0:Option Addr)(d:Sl)(x:Sl)(n:Int):PR:=λR w=>
nck e0 λa=>
ldc (.ptr) w a λ(v:OA)=>
nck v λa1=>
ldc (.ptr) w a1 λ(v1:OA)=>
cl Pg F.au [.pointer v1,d.v,x.v] w [.one .slice] λ(s:Sl) w1=>
cl Pg F.fQ [.int .i64 n] w1 [.one .slice] λ(s1:Sl) w2=>
cl Pg F.aP [s1.v,s.v] w2 [.one .slice,.one .bool] λ(s2:Sl)(ok:Bool) w3=>
cond ok (
nck e0 λa2=>
ldc (.ptr) w3 a2 λ(v2:OA)=>
nck v2 λa3=>
ldc (.ptr) w3 a3 λ(v3:OA)=>
cl Pg F.au [.pointer v3,x.v,s2.v] w3 [.one .slice] λ(s3:Sl) w4=>
cl Pg F.bU [s3.v,.int .i64 n] w4 [.one .slice] λ(s4:Sl) w5=>
cl Pg F.bG [x.v,s4.v] w5 [.one .slice] λ(s5:Sl) w6=>
R (s5.v) w6) (
cl Pg F.aP [s.v,s1.v] w3 [.one .slice,.one .bool] λ(s6:Sl)(_:Bool) w7=>
nck e0 λa4=>
ldc (.ptr) w7 a4 λ(v4:OA)=>
nck v4 λa5=>
ldc (.ptr) w7 a5 λ(v5:OA)=>
cl Pg F.au [.pointer v5,x.v,s6.v] w7 [.one .slice] λ(s7:Sl) w8=>
cl Pg F.bU [s7.v,.int .i64 n] w8 [.one .slice] λ(s8:Sl) w9=>
cl Pg F.aX [.int .u64 1] w9 [.one .slice] λ(s9:Sl) w10=>
cl Pg F.bG [s8.v,s9.v] w10 [.one .slice] λ(s10:Sl) w11=>
cl Pg F.aP [x.v,s10.v] w11 [.one .slice,.one .bool] λ(s11:Sl)(ok2:Bool) w12=>
cond (!ok2) (
R (.slice none 0 0) w12) (
R (s11.v) w12))
theorem Ct.dH:CG (Sh.dH e0 d x n) F.dH [.pointer e0,d.v,x.v,.int .i64 n] [.one .slice]:=cod 80 [] [] [] f228
def Sh.cY(e0:Option Addr)(d:Sl)(x:Sl)(n:Int):PR:=λR w=>
cl Pg F.fQ [.int .i64 n] w [.one .slice] λ(s:Sl) w1=>
nck e0 λa=>
ldc (.ptr) w1 a λ(v:OA)=>
nck v λa1=>
ldc (.ptr) w1 a1 λ(v1:OA)=>
cl Pg F.au [.pointer v1,d.v,x.v] w1 [.one .slice] λ(s1:Sl) w2=>
Jn [] (λJ0=>
Lp [.slice,.slice,.int .i64] (λ(x1:Sl)(p:Sl)(x2:Int) w3 C0=>
cond (decide ((x2:Int)<8)) (
Jn [.slice,.slice] (λJ1=>
cl Pg F.aP [s.v,p.v] w3 [.one .slice,.one .bool] λ(s2:Sl)(ok:Bool) w4=>
cond (!ok) (
cl Pg F.aX [.int .u64 1] w4 [.one .slice] λ(s3:Sl) w5=>
cl Pg F.aP [x1.v,s3.v] w5 [.one .slice,.one .bool] λ(s4:Sl)(_:Bool) w6=>
cl Pg F.aP [p.v,d.v] w6 [.one .slice,.one .bool] λ(s5:Sl)(_:Bool) w7=>
J1 s4 s5 w7) (
cl Pg F.cO [s2.v,d.v] w4 [.one (.int .i64)] λ(r:Int) w8=>
cond (decide ((r:Int)<0)) (
R (x1.v) w8) (
cl Pg F.aX [.int .u64 1] w8 [.one .slice] λ(s6:Sl) w9=>
cl Pg F.bG [x1.v,s6.v] w9 [.one .slice] λ(s7:Sl) w10=>
cl Pg F.bG [p.v,d.v] w10 [.one .slice] λ(s8:Sl) w11=>
J1 s7 s8 w11))) λ(x3:Sl)(p1:Sl) w12=>
bnd (wi (x2+1)) λn1=>
C0 x3 p1 n1 w12) (
J0 w3)) x s1 0 w2) fun  w13=>
nck e0 λa2=>
ldc (.ptr) w13 a2 λ(v2:OA)=>
cl Pg F.bL [.pointer v2,s.v,d.v] w13 [.one .slice,.one .slice,.one (.int .i64)] λ(s9:Sl)(_:Sl)(_:Int) w14=>
R (s9.v) w14
theorem Ct.cY:CG (Sh.cY e0 d x n) F.cY [.pointer e0,d.v,x.v,.int .i64 n] [.one .slice]:=cod 74 [] [] [(2,0,[]),(3,4,[(2,.one .slice),(10,.one .slice),(28,.one (.int .i64))]),(2,1,[(2,.one .slice),(10,.one .slice)])] f229
def Sh.kh(t:HL I11):PR:=λR w=>
nwv w λw1=>
cl Pg F.kW [.agg (aM I11 t).toArray] w1 [.one .ptr] λ(p:OA) w2=>
nwb w2 [.pointer p] T.wg λb w3=>
R (.pointer (some ⟨b,0,none⟩)) w3
theorem Ct.kh{t:HL I11}:CG (Sh.kh t) F.kh [.agg (aM I11 t).toArray] [.one .ptr]:=cod 7 [(1,7)] [(7,11)] [] f272
end
section
set_option maxRecDepth 100000
open Go.Proofs.Tryz
def Sh.kU(t:HL I11):PR:=λR w=>
nwv w λw1=>
cl Pg F.mu [.agg (aM I11 t).toArray] w1 [.one .ptr] λ(p:OA) w2=>
nwb w2 [.pointer p] T.wK λb w3=>
R (.pointer (some ⟨b,0,none⟩)) w3
theorem Ct.kU{t:HL I11}:CG (Sh.kU t) F.kU [.agg (aM I11 t).toArray] [.one .ptr]:=cod 7 [(1,7)] [(7,11)] [] f260
end
section
set_option maxRecDepth 100000
open Go.Proofs.Tryz
def Sh.cG(e0:Option Addr)(a:Sl)(b:Sl):PR:=λR w=>
nck e0 λa1=>
ldc (.ptr) w a1 λ(v:OA)=>
nck v λa2=>
bnd (wi ((a.n:Int)*(b.n:Int))) λn=>
cl Pg F.aS [.pointer (some a2),.int .i64 n] w [.one (.int .i64)] λ(_:Int) w1=>
bnd (wi ((a.n:Int)+(b.n:Int))) λn1=>
mks w1 n1 n1 T.an 8 [.int .u64 0] λs w2=>
Jn [] (λJ0=>
Lp [.int .i64] (λ(x:Int) w3 C0=>
cond (decide ((x:Int)<(a.n:Int))) (
ixa a x 1 λa3=>
ldc (.int .u64) w3 a3 λ(v1:Int)=>
Jn [.int .u64] (λJ1=>
Lp [.int .u64,.int .i64] (λ(c:Int)(x1:Int) w4 C1=>
cond (decide ((x1:Int)<(b.n:Int))) (
ixa b x1 1 λa4=>
ldc (.int .u64) w4 a4 λ(v2:Int)=>
cl Pg F.aL [.int .u64 v1,.int .u64 v2] w4 [.one (.int .u64),.one (.int .u64)] λ(r1:Int)(r2:Int) w5=>
gv r2 c 0 λs1 c1=>
bnd (wu (r1+c1)) λn2=>
bnd (wi (x+x1)) λn3=>
bnd (wi (x+x1)) λn4=>
ixa s n4 1 λa5=>
ldc (.int .u64) w5 a5 λ(v3:Int)=>
gv v3 s1 0 λs2 c2=>
ixa s n3 1 λa6=>
stc w5 a6 (.int .u64 s2) λw6=>
bnd (wu (n2+c2)) λn5=>
bnd (wi (x1+1)) λn6=>
C1 n5 n6 w6) (
J1 c w4)) 0 0 w3) λ(c3:Int) w7=>
bnd (wi (x+(b.n:Int))) λn7=>
ixa s n7 1 λa7=>
stc w7 a7 (.int .u64 c3) λw8=>
bnd (wi (x+1)) λn8=>
C0 n8 w8) (
J0 w3)) 0 w2) fun  w9=>
cl Pg F.aF [s.v] w9 [.one .slice] λ(s3:Sl) w10=>
R (s3.v) w10
theorem Ct.cG{e0:Option Addr}{a:Sl}{b:Sl}:CG (Sh.cG e0 a b) F.cG [.pointer e0,a.v,b.v] [.one .slice]:=cod 94 [] [] [(2,0,[]),(3,4,[(37,.one (.int .i64))]),(2,2,[(10,.one (.int .u64))]),(3,8,[(10,.one (.int .u64)),(44,.one (.int .i64))])] f155
def Sh.ji(t:HL I11):PR:=λR w=>
nwv w λw1=>
cl Pg F.jJ [.agg (aM I11 t).toArray] w1 [.one .ptr] λ(p:OA) w2=>
nwb w2 [.pointer p] T.pI λb w3=>
R (.pointer (some ⟨b,0,none⟩)) w3
theorem Ct.ji{t:HL I11}:CG (Sh.ji t) F.ji [.agg (aM I11 t).toArray] [.one .ptr]:=cod 7 [(1,7)] [(7,11)] [] f282
end
section
set_option maxRecDepth 100000
open Go.Proofs.Tryz
variable {t:HL I11} {m n:Int}
def Sh.ep(t:Option Addr)(n:Int)(m:Int):PR:=λR w=>
nck t λa=>
tbl w a λ(v:Int)(v1:Int)(v2:Int)(v3:Int)(v4:Int)(v5:Int)(v6:Int)(v7:Int)(v8:Int)(v9:Int)(v10:Int)=>
cl Pg F.iS [.agg #[.int .i64 v,.int .i64 v1,.int .i64 v2,.int .i64 v3,.int .i64 v4,.int .i64 v5,.int .i64 v6,.int .i64 v7,.int .i64 v8,.int .i64 v9,.int .i64 v10],.int .i64 n,.int .i64 m] w [.one (.int .i64)] λ(r:Int) w1=>
R (.int .i64 r) w1
theorem Ct.ep{t:Option Addr}:CG (Sh.ep t n m) F.ep [.pointer t,.int .i64 n,.int .i64 m] [.one (.int .i64)]:=cod 14 [] [] [] f154
def Sh.iS(t:HL I11)(n:Int)(m:Int):PR:=λR w=>
nwv w λw1=>
Jn [.bool,.int .i64,.int .i64,.int .i64,.int .i64,.int .i64,.int .i64,.int .i64,.int .i64,.int .i64,.int .i64,.int .i64] (λJ0=>
cl Pg F.jh [.int .i64 n] w1 [.one .bool] λ(ok:Bool) w2=>
cond (!ok) (
J0 true t.1 t.2.1 t.2.2.1 t.2.2.2.1 t.2.2.2.2.1 t.2.2.2.2.2.1 t.2.2.2.2.2.2.1 t.2.2.2.2.2.2.2.1 t.2.2.2.2.2.2.2.2.1 t.2.2.2.2.2.2.2.2.2.1 t.2.2.2.2.2.2.2.2.2.2.1 w2) (
cl Pg F.jh [.int .i64 m] w2 [.one .bool] λ(ok1:Bool) w3=>
J0 (!ok1) t.1 t.2.1 t.2.2.1 t.2.2.2.1 t.2.2.2.2.1 t.2.2.2.2.2.1 t.2.2.2.2.2.2.1 t.2.2.2.2.2.2.2.1 t.2.2.2.2.2.2.2.2.1 t.2.2.2.2.2.2.2.2.2.1 t.2.2.2.2.2.2.2.2.2.2.1 w3)) λ(x:Bool)(t1:Int)(t2:Int)(t3:Int)(t4:Int)(t5:Int)(t6:Int)(t7:Int)(t8:Int)(t9:Int)(t10:Int)(t11:Int) w4=>
cond x (
R (.int .i64 0) w4) (
cl Pg F.ie [.agg #[.int .i64 t1,.int .i64 t2,.int .i64 t3,.int .i64 t4,.int .i64 t5,.int .i64 t6,.int .i64 t7,.int .i64 t8,.int .i64 t9,.int .i64 t10,.int .i64 t11]] w4 [.agg I11] λ(r:Int)(r1:Int)(r2:Int)(r3:Int)(r4:Int)(r5:Int)(r6:Int)(r7:Int)(r8:Int)(r9:Int)(r10:Int) w5=>
bnd (if (m:Int)>n then m else n) λn1=>
bnd (if (m:Int)<n then m else n) λn2=>
cl Pg F.iR [.agg #[.int .i64 r,.int .i64 r1,.int .i64 r2,.int .i64 r3,.int .i64 r4,.int .i64 r5,.int .i64 r6,.int .i64 r7,.int .i64 r8,.int .i64 r9,.int .i64 r10],.int .i64 n1,.int .i64 n2] w5 [.one (.int .i64)] λ(r11:Int) w6=>
R (.int .i64 r11) w6)
theorem Ct.iS:CG (Sh.iS t n m) F.iS [.agg (aM I11 t).toArray,.int .i64 n,.int .i64 m] [.one (.int .i64)]:=cod 24 [(3,24)] [(24,11)] [(0,1,[(14,.one .bool),(24,.one (.int .i64)),(25,.one (.int .i64)),(26,.one (.int .i64)),(27,.one (.int .i64)),(28,.one (.int .i64)),(29,.one (.int .i64)),(30,.one (.int .i64)),(31,.one (.int .i64)),(32,.one (.int .i64)),(33,.one (.int .i64)),(34,.one (.int .i64))])] f190
def Sh.jh(n:Int):PR:=λR w=>
Jn [.bool] (λJ0=>
cond (decide ((n:Int)≥0)) (
J0 (decide ((n:Int)≤16384)) w) (
J0 false w)) λ(x:Bool) w1=>
R (.bool x) w1
theorem Ct.jh:CG (Sh.jh n) F.jh [.int .i64 n] [.one .bool]:=cod 9 [] [] [(0,1,[(2,.one .bool)])] f223
def Sh.iR(t:HL I11)(n:Int)(m:Int):PR:=λR w=>
nwv w λw1=>
bnd (wi (n+2)) λn1=>
d9 .i64 n1 3 λn2=>
cond ((m:Int) == 0) (
R (.int .i64 0) w1) (
cond (decide ((m:Int)<t.1)) (
R (.int .i64 1) w1) (
bnd (wi (2*m)) λn3=>
bnd (wi (n+1)) λn4=>
cond (decide ((n3:Int)≤n4)) (
R (.int .i64 2) w1) (
cond (decide ((m:Int)<t.2.1)) (
R (.int .i64 3) w1) (
bnd (wi (n+m)) λn5=>
cond (decide ((n5:Int)≥t.2.2.1)) (
R (.int .i64 5) w1) (
bnd (wi (2*n2)) λn6=>
cond (decide ((m:Int)>n6)) (
R (.int .i64 4) w1) (
R (.int .i64 3) w1))))))
theorem Ct.iR:CG (Sh.iR t n m) F.iR [.agg (aM I11 t).toArray,.int .i64 n,.int .i64 m] [.one (.int .i64)]:=cod 42 [(3,42)] [(42,11)] [] f224
def Sh.ie(t:HL I11):PR:=λR w=>
nwv w λw1=>
nwv w1 λw2=>
cl Pg F.bn [.int .i64 t.1,.int .i64 4,.int .i64 64] w2.drew [.one (.int .i64)] λ(r:Int) w3=>
cl Pg F.bn [.int .i64 t.2.1,.int .i64 12,.int .i64 8192] w3 [.one (.int .i64)] λ(r1:Int) w4=>
cl Pg F.bn [.int .i64 t.2.2.1,.int .i64 64,.int .i64 16384] w4 [.one (.int .i64)] λ(r2:Int) w5=>
cl Pg F.bn [.int .i64 t.2.2.2.1,.int .i64 4,.int .i64 1024] w5 [.one (.int .i64)] λ(r3:Int) w6=>
cl Pg F.bn [.int .i64 t.2.2.2.2.1,.int .i64 4,.int .i64 4096] w6 [.one (.int .i64)] λ(r4:Int) w7=>
cl Pg F.bn [.int .i64 t.2.2.2.2.2.1,.int .i64 2,.int .i64 1024] w7 [.one (.int .i64)] λ(r5:Int) w8=>
cl Pg F.bn [.int .i64 t.2.2.2.2.2.2.1,.int .i64 2,.int .i64 1024] w8 [.one (.int .i64)] λ(r6:Int) w9=>
cl Pg F.bn [.int .i64 t.2.2.2.2.2.2.2.1,.int .i64 4,.int .i64 256] w9 [.one (.int .i64)] λ(r7:Int) w10=>
cl Pg F.bn [.int .i64 t.2.2.2.2.2.2.2.2.1,.int .i64 4,.int .i64 1024] w10 [.one (.int .i64)] λ(r8:Int) w11=>
cl Pg F.bn [.int .i64 t.2.2.2.2.2.2.2.2.2.1,.int .i64 2,.int .i64 1024] w11 [.one (.int .i64)] λ(r9:Int) w12=>
cl Pg F.bn [.int .i64 t.2.2.2.2.2.2.2.2.2.2.1,.int .i64 2,.int .i64 256] w12 [.one (.int .i64)] λ(r10:Int) w13=>
nwv w13 λw14=>
R (.agg #[.int .i64 r,.int .i64 r1,.int .i64 r2,.int .i64 r3,.int .i64 r4,.int .i64 r5,.int .i64 r6,.int .i64 r7,.int .i64 r8,.int .i64 r9,.int .i64 r10]) w14
theorem Ct.ie:CG (Sh.ie t) F.ie [.agg (aM I11 t).toArray] [.agg I11]:=cod 37 [(1,37),(2,48)] [(37,11),(48,11)] [] f225
def Sh.bn(n:Int)(least:Int)(most:Int):PR:=λR w=>
bnd (if (most:Int)<n then most else n) λn1=>
bnd (if (n1:Int)>least then n1 else least) λn2=>
R (.int .i64 n2) w
theorem Ct.bn{least:Int}{most:Int}:CG (Sh.bn n least most) F.bn [.int .i64 n,.int .i64 least,.int .i64 most] [.one (.int .i64)]:=cod 12 [] [] [] f250
def Sh.jJ(t:HL I11):PR:=λR w=>
nwv w λw1=>
cl Pg F.ie [.agg (aM I11 t).toArray] w1 [.agg I11] λ(r:Int)(r1:Int)(r2:Int)(r3:Int)(r4:Int)(r5:Int)(r6:Int)(r7:Int)(r8:Int)(r9:Int)(r10:Int) w2=>
nwb w2 [.int .i64 0,.int .i64 0,.int .i64 0,.int .i64 r,.int .i64 r1,.int .i64 r2,.int .i64 r3,.int .i64 r4,.int .i64 r5,.int .i64 r6,.int .i64 r7,.int .i64 r8,.int .i64 r9,.int .i64 r10] T.dj λb w3=>
R (.pointer (some ⟨b,0,none⟩)) w3
theorem Ct.jJ:CG (Sh.jJ t) F.jJ [.agg (aM I11 t).toArray] [.one .ptr]:=cod 7 [(1,7)] [(7,11)] [] f283
end
section
set_option maxRecDepth 100000
open Go.Proofs.Tryz
variable {a b:Sl} {k:Int}
def Sh.eo(e0:Option Addr)(a:Sl)(b:Sl)(inner:Value):PR:=λR w=>
Jn [.slice,.slice] (λJ0=>
cond (decide (((a.n:Int):Int)<(b.n:Int))) (
J0 b a w) (
J0 a b w)) λ(a1:Sl)(b1:Sl) w1=>
bnd (wi ((a1.n:Int)+2)) λn=>
d9 .i64 n 3 λn1=>
bnd (wi (2*n1)) λn2=>
cond (decide (((b1.n:Int):Int)≤n2)) (
R (.tuple #[.slice none 0 0,.bool false]) w1) (
nck e0 λa2=>
ldc (.ptr) w1 a2 λ(v:OA)=>
nck v λa3=>
ldc (.ptr) w1 a3 λ(v1:OA)=>
nck v1 λa4=>
ldc (.ptr) w1 a4 λ(v2:OA)=>
nck v2 λa5=>
cl Pg F.br [.pointer (some a5)] w1 [.one (.int .i64)] λ(_:Int) w2=>
cl Pg F.ic [a1.v,.int .i64 n1] w2 [.agg [.slice,.bool],.agg [.slice,.bool],.agg [.slice,.bool],.agg [.slice,.bool],.agg [.slice,.bool]] λ(r1:Sl)(_:Bool)(r3:Sl)(_:Bool)(r5:Sl)(r6:Bool)(r7:Sl)(_:Bool)(r9:Sl)(_:Bool) w3=>
nwv w3 λw4=>
nwv w4 λw5=>
nwv w5 λw6=>
nwv w6 λw7=>
nwv w7 λw8=>
nwv w8 λw9=>
nwv w9 λw10=>
nwv w10 λw11=>
nwv w11 λw12=>
nwv w12 λw13=>
cl Pg F.ic [b1.v,.int .i64 n1] w13 [.agg [.slice,.bool],.agg [.slice,.bool],.agg [.slice,.bool],.agg [.slice,.bool],.agg [.slice,.bool]] λ(r11:Sl)(_:Bool)(r13:Sl)(_:Bool)(r15:Sl)(r16:Bool)(r17:Sl)(_:Bool)(r19:Sl)(_:Bool) w14=>
nwv w14 λw15=>
nwv w15 λw16=>
nwv w16 λw17=>
nwv w17 λw18=>
nwv w18 λw19=>
nwv w19 λw20=>
nwv w20 λw21=>
nwv w21 λw22=>
nwv w22 λw23=>
nwv w23 λw24=>
cl Pg F.cm [r1.v,.int .i64 n1] w24.drew [.one .slice] λ(s:Sl) w25=>
cl Pg F.cm [r11.v,.int .i64 n1] w25 [.one .slice] λ(s1:Sl) w26=>
clv Pg inner [s.v,s1.v] w26 [.one .slice] λ(s2:Sl) w27=>
bnd (wi (n1+1)) λn3=>
bnd (wi (n1+1)) λn4=>
cl Pg F.cm [r3.v,.int .i64 n3] w27.drew [.one .slice] λ(s3:Sl) w28=>
cl Pg F.cm [r13.v,.int .i64 n4] w28 [.one .slice] λ(s4:Sl) w29=>
clv Pg inner [s3.v,s4.v] w29 [.one .slice] λ(s5:Sl) w30=>
bnd (wi (n1+1)) λn5=>
bnd (wi (n1+1)) λn6=>
cl Pg F.cm [r5.v,.int .i64 n5] w30.drew [.one .slice] λ(s6:Sl) w31=>
cl Pg F.cm [r15.v,.int .i64 n6] w31 [.one .slice] λ(s7:Sl) w32=>
clv Pg inner [s6.v,s7.v] w32 [.one .slice] λ(s8:Sl) w33=>
bnd (wi (n1+1)) λn7=>
bnd (wi (n1+1)) λn8=>
cl Pg F.cm [r7.v,.int .i64 n7] w33.drew [.one .slice] λ(s9:Sl) w34=>
cl Pg F.cm [r17.v,.int .i64 n8] w34 [.one .slice] λ(s10:Sl) w35=>
clv Pg inner [s9.v,s10.v] w35 [.one .slice] λ(s11:Sl) w36=>
bnd (wi (2*n1)) λn9=>
bnd (wi ((a1.n:Int)-n9)) λn10=>
bnd (wi (2*n1)) λn11=>
bnd (wi ((b1.n:Int)-n11)) λn12=>
cl Pg F.cm [r9.v,.int .i64 n10] w36.drew [.one .slice] λ(s12:Sl) w37=>
cl Pg F.cm [r19.v,.int .i64 n12] w37 [.one .slice] λ(s13:Sl) w38=>
clv Pg inner [s12.v,s13.v] w38 [.one .slice] λ(s14:Sl) w39=>
ch 2 w39 e0 λ(v5:OA)=>
nck v5 λa9=>
cl Pg F.bq [.pointer (some a9)] w39 [.one (.int .i64)] λ(_:Int) w40=>
cl Pg F.iQ [.int .i64 n1,s2.v,s5.v,s8.v,s11.v,s14.v,.bool (!(r6 == r16))] w40 [.one .slice] λ(s15:Sl) w41=>
R (.tuple #[s15.v,.bool true]) w41)
theorem Ct.eo{e0:Option Addr}{inner:Value}:CG (Sh.eo e0 a b inner) F.eo [.pointer e0,a.v,b.v,inner] [.one .slice,.one .bool]:=cod 164 [(13,164),(14,166),(15,168),(16,170),(17,172),(18,174),(19,176),(20,178),(21,180),(22,182)] [(164,2),(166,2),(168,2),(170,2),(172,2),(174,2),(176,2),(178,2),(180,2),(182,2)] [(1,2,[(1,.one .slice),(2,.one .slice)])] f188
def Sh.ic(a:Sl)(k:Int):PR:=λR w=>
nwv w λw1=>
nwv w1 λw2=>
nwv w2 λw3=>
nwv w3 λw4=>
nwv w4 λw5=>
bnd (if (16384:Int)<k then 16384 else k) λn=>
bnd (if (n:Int)>1 then n else 1) λn1=>
cl Pg F.aF [a.v] w5 [.one .slice] λ(s:Sl) w6=>
cl Pg F.iP [s.v,.int .i64 0,.int .i64 n1] w6 [.one .slice] λ(s1:Sl) w7=>
bnd (wi (2*n1)) λn2=>
cl Pg F.iP [s.v,.int .i64 n1,.int .i64 n2] w7 [.one .slice] λ(s2:Sl) w8=>
bnd (wi (2*n1)) λn3=>
cl Pg F.iP [s.v,.int .i64 n3,.int .i64 (s.n:Int)] w8 [.one .slice] λ(s3:Sl) w9=>
cl Pg F.bG [s1.v,s3.v] w9 [.one .slice] λ(s4:Sl) w10=>
cl Pg F.aF [s1.v] w10 [.one .slice] λ(s5:Sl) w11=>
nwv w11 λw12=>
cl Pg F.bG [s4.v,s2.v] w12 [.one .slice] λ(s6:Sl) w13=>
nwv w13 λw14=>
cl Pg F.jI [s4.v,s2.v] w14 [.agg [.slice,.bool]] λ(r:Sl)(r1:Bool) w15=>
nwv w15 λw16=>
cl Pg F.bV [s2.v,.int .i64 1] w16 [.one .slice] λ(s7:Sl) w17=>
cl Pg F.bV [s3.v,.int .i64 2] w17 [.one .slice] λ(s8:Sl) w18=>
nwb w18 [s1.v,s7.v,s8.v] T.bP λb w19=>
cl Pg F.jW [.slice (some ⟨b,0,none⟩) 3 3] w19 [.one .slice] λ(s9:Sl) w20=>
nwv w20 λw21=>
cl Pg F.aF [s3.v] w21 [.one .slice] λ(s10:Sl) w22=>
nwv w22 λw23=>
nwv w23.drew λw24=>
nwv w24 λw25=>
nwv w25 λw26=>
nwv w26 λw27=>
nwv w27 λw28=>
R (.tuple #[.agg #[s5.v,.bool false],.agg #[s6.v,.bool false],.agg #[r.v,.bool r1],.agg #[s9.v,.bool false],.agg #[s10.v,.bool false]]) w28
theorem Ct.ic:CG (Sh.ic a k) F.ic [a.v,.int .i64 k] [.agg [.slice,.bool],.agg [.slice,.bool],.agg [.slice,.bool],.agg [.slice,.bool],.agg [.slice,.bool]]:=cod 61 [(4,61),(5,63),(6,65),(7,67),(8,69)] [(61,2),(63,2),(65,2),(67,2),(69,2)] [] f219
def Sh.cm(a:Sl)(n:Int):PR:=λR w=>
mks w n n T.an 8 [.int .u64 0] λs w1=>
cl Pg F.aO [a.v] w1 [.one (.int .i64)] λ(r:Int) w2=>
slc a 0 r 1 λs1=>
cpy w2 T.an s s1 λ_ w3=>
R (s.v) w3
theorem Ct.cm{n:Int}:CG (Sh.cm a n) F.cm [a.v,.int .i64 n] [.one .slice]:=cod 15 [] [] [] f220
def Sh.iQ(k:Int)(r0:Sl)(r1:Sl)(rm:Sl)(r2:Sl)(inf:Sl)(neg:Bool):PR:=λR w=>
cl Pg F.bG [r1.v,rm.v] w [.one .slice] λ(s:Sl) w1=>
cl Pg F.jH [r1.v,rm.v] w1 [.one .slice] λ(s1:Sl) w2=>
Jn [.slice,.slice] (λJ0=>
cond neg (
J0 s1 s w2) (
J0 s s1 w2)) λ(even:Sl)(odd:Sl) w3=>
cl Pg F.bU [even.v,.int .i64 1] w3 [.one .slice] λ(s2:Sl) w4=>
cl Pg F.bU [odd.v,.int .i64 1] w4 [.one .slice] λ(s3:Sl) w5=>
nwb w5 [r0.v,inf.v] T.bP λb w6=>
cl Pg F.i7 [s2.v,.slice (some ⟨b,0,none⟩) 2 2] w6 [.one .slice] λ(s4:Sl) w7=>
cl Pg F.bV [s4.v,.int .i64 2] w7 [.one .slice] λ(s5:Sl) w8=>
cl Pg F.bV [inf.v,.int .i64 4] w8 [.one .slice] λ(s6:Sl) w9=>
nwb w9 [r0.v,s5.v,s6.v] T.bP λb1 w10=>
cl Pg F.i7 [r2.v,.slice (some ⟨b1,0,none⟩) 3 3] w10 [.one .slice] λ(s7:Sl) w11=>
cl Pg F.bU [s7.v,.int .i64 1] w11 [.one .slice] λ(s8:Sl) w12=>
nwb w12 [s3.v] T.bP λb2 w13=>
cl Pg F.i7 [s8.v,.slice (some ⟨b2,0,none⟩) 1 1] w13 [.one .slice] λ(s9:Sl) w14=>
cl Pg F.jg [s9.v] w14 [.one .slice,.one .bool] λ(s10:Sl)(_:Bool) w15=>
nwb w15 [s10.v] T.bP λb3 w16=>
cl Pg F.i7 [s3.v,.slice (some ⟨b3,0,none⟩) 1 1] w16 [.one .slice] λ(s11:Sl) w17=>
nwb w17 [r0.v,s11.v,s4.v,s10.v,inf.v] T.bP λb4 w18=>
cl Pg F.cq [.int .i64 k,.slice (some ⟨b4,0,none⟩) 5 5] w18 [.one .slice] λ(s12:Sl) w19=>
R (s12.v) w19
theorem Ct.iQ{r0:Sl}{r1:Sl}{rm:Sl}{r2:Sl}{inf:Sl}{neg:Bool}:CG (Sh.iQ k r0 r1 rm r2 inf neg) F.iQ [.int .i64 k,r0.v,r1.v,rm.v,r2.v,inf.v,.bool neg] [.one .slice]:=cod 69 [] [] [(1,3,[(15,.one .slice),(16,.one .slice)])] f221
def Sh.iP(a:Sl)(from0:Int)(to:Int):PR:=λR w=>
cond (decide ((from0:Int)≥(a.n:Int))) (
R (.slice none 0 0) w) (
bnd (if ((a.n:Int):Int)<to then (a.n:Int) else to) λn=>
slc a from0 n 1 λs=>
R (s.v) w)
theorem Ct.iP{from0:Int}{to:Int}:CG (Sh.iP a from0 to) F.iP [a.v,.int .i64 from0,.int .i64 to] [.one .slice]:=cod 18 [] [] [] f244
def Sh.jI(a:Sl)(b:Sl):PR:=λR w=>
nwv w λw1=>
cl Pg F.aP [a.v,b.v] w1 [.one .slice,.one .bool] λ(s:Sl)(ok:Bool) w2=>
cond ok (
nwv w2 λw3=>
R (.agg #[s.v,.bool false]) w3) (
cl Pg F.aP [b.v,a.v] w2 [.one .slice,.one .bool] λ(s1:Sl)(_:Bool) w4=>
nwv w4 λw5=>
R (.agg #[s1.v,.bool true]) w5)
theorem Ct.jI:CG (Sh.jI a b) F.jI [a.v,b.v] [.agg [.slice,.bool]]:=cod 26 [(4,26)] [(26,2)] [] f245
def Sh.jH(a:Sl)(b:Sl):PR:=λR w=>
cl Pg F.aP [a.v,b.v] w [.one .slice,.one .bool] λ(s:Sl)(_:Bool) w1=>
R (s.v) w1
theorem Ct.jH:CG (Sh.jH a b) F.jH [a.v,b.v] [.one .slice]:=cod 14 [] [] [] f247
def Sh.i7(a:Sl)(l:Sl):PR:=λR w=>
cl Pg F.jW [l.v] w [.one .slice] λ(s:Sl) w1=>
cl Pg F.aP [a.v,s.v] w1 [.one .slice,.one .bool] λ(s1:Sl)(_:Bool) w2=>
R (s1.v) w2
theorem Ct.i7{l:Sl}:CG (Sh.i7 a l) F.i7 [a.v,l.v] [.one .slice]:=cod 15 [] [] [] f248
def Sh.jg(a:Sl):PR:=λR w=>
cl Pg F.aF [a.v] w [.one .slice] λ(s:Sl) w1=>
Jn [.int .u64] (λJ0=>
Lp [.int .u64,.int .i64] (λ(c:Int)(x:Int) w2 C0=>
cond (decide ((x:Int)<(s.n:Int))) (
ixa s x 1 λa1=>
ldc (.int .u64) w2 a1 λ(v:Int)=>
kP v c 0 λs1 c1=>
bnd (wu (s1*12297829382473034411)) λn=>
ixa s x 1 λa2=>
stc w2 a2 (.int .u64 n) λw3=>
cl Pg F.aL [.int .u64 n,.int .u64 3] w3 [.one (.int .u64),.one (.int .u64)] λ(r:Int)(_:Int) w4=>
bnd (wu (r+c1)) λn1=>
bnd (wi (x+1)) λn2=>
C0 n1 n2 w4) (
J0 c w2)) 0 0 w1) λ(c2:Int) w5=>
cond ((c2:Int) != 0) (
R (.tuple #[.slice none 0 0,.bool false]) w5) (
cl Pg F.aF [s.v] w5 [.one .slice] λ(s2:Sl) w6=>
R (.tuple #[s2.v,.bool true]) w6)
theorem Ct.jg:CG (Sh.jg a) F.jg [a.v] [.one .slice,.one .bool]:=cod 46 [] [] [(2,0,[(4,.one (.int .u64))]),(3,4,[(4,.one (.int .u64)),(16,.one (.int .i64))])] f249
def Sh.jS(t:HL I11):PR:=λR w=>
nwv w λw1=>
cl Pg F.kt [.agg (aM I11 t).toArray] w1 [.one .ptr] λ(p:OA) w2=>
nwb w2 [.pointer p] T.qT λb w3=>
R (.pointer (some ⟨b,0,none⟩)) w3
theorem Ct.jS{t:HL I11}:CG (Sh.jS t) F.jS [.agg (aM I11 t).toArray] [.one .ptr]:=cod 7 [(1,7)] [(7,11)] [] f280
end
section
set_option maxRecDepth 100000
open Go.Proofs.Tryz
variable {a0 a1 d0 d1:Int}
def Sh.gm(d1:Int)(d0:Int):PR:=λR w=>
cl Pg F.im [.int .u64 d1] w [.one (.int .u64),.one .bool] λ(r:Int)(ok:Bool) w1=>
cond (!ok) (
R (.tuple #[.int .u64 0,.bool false]) w1) (
bnd (wu (d1*r)) λn=>
bnd (wu (n+d0)) λn1=>
Jn [.int .u64,.int .u64] (λJ0=>
cond (decide ((n1:Int)<d0)) (
bnd (wu (r-1)) λn2=>
Jn [.int .u64,.int .u64] (λJ1=>
cond (decide ((n1:Int)≥d1)) (
bnd (wu (n2-1)) λn3=>
bnd (wu (n1-d1)) λn4=>
J1 n3 n4 w1) (
J1 n2 n1 w1)) λ(v:Int)(p:Int) w2=>
bnd (wu (p-d1)) λn5=>
J0 v n5 w2) (
J0 r n1 w1)) λ(v1:Int)(p1:Int) w3=>
cl Pg F.aL [.int .u64 v1,.int .u64 d0] w3 [.one (.int .u64),.one (.int .u64)] λ(r1:Int)(r2:Int) w4=>
bnd (wu (p1+r1)) λn6=>
Jn [.int .u64] (λJ2=>
cond (decide ((n6:Int)<r1)) (
bnd (wu (v1-1)) λn7=>
Jn [.bool] (λJ3=>
cond (decide ((n6:Int)>d1)) (
J3 true w4) (
cond ((n6:Int) == d1) (
J3 (decide ((r2:Int)≥d0)) w4) (
J3 false w4))) λ(x:Bool) w5=>
Jn [.int .u64] (λJ4=>
cond x (
bnd (wu (n7-1)) λn8=>
J4 n8 w5) (
J4 n7 w5)) λ(v2:Int) w6=>
J2 v2 w6) (
J2 v1 w4)) λ(v3:Int) w7=>
R (.tuple #[.int .u64 v3,.bool true]) w7)
theorem Ct.gm:CG (Sh.gm d1 d0) F.gm [.int .u64 d1,.int .u64 d0] [.one (.int .u64),.one .bool]:=cod 69 [] [] [(1,6,[(6,.one (.int .u64)),(8,.one (.int .u64))]),(1,8,[(6,.one (.int .u64)),(8,.one (.int .u64))]),(1,14,[(6,.one (.int .u64))]),(0,15,[(65,.one .bool)]),(1,16,[(6,.one (.int .u64))])] f159
def Sh.im(d:Int):PR:=λR w=>
cond (decide ((d:Int)<9223372036854775808)) (
R (.tuple #[.int .u64 0,.bool false]) w) (
bnd (bg .xor .u64 IntKind.u64.max d) λn=>
cl Pg F.eU [.int .u64 n,.int .u64 18446744073709551615,.int .u64 d] w [.one (.int .u64),.one (.int .u64)] λ(r:Int)(_:Int) w1=>
R (.tuple #[.int .u64 r,.bool true]) w1)
theorem Ct.im{d:Int}:CG (Sh.im d) F.im [.int .u64 d] [.one (.int .u64),.one .bool]:=cod 16 [] [] [] f191
def Sh.jG(a2:Int)(a1:Int)(a0:Int)(d1:Int)(d0:Int)(v:Int):PR:=λR w=>
Jn [.bool] (λJ0=>
cond (decide ((d1:Int)<9223372036854775808)) (
J0 true w) (
cl Pg F.iI [.int .u64 a2,.int .u64 a1,.int .u64 d1,.int .u64 d0] w [.one .bool] λ(ok:Bool) w1=>
J0 (!ok) w1)) λ(x:Bool) w2=>
cond x (
R (.tuple #[.int .u64 0,.int .u64 0,.int .u64 0,.bool false]) w2) (
cl Pg F.aL [.int .u64 v,.int .u64 a2] w2 [.one (.int .u64),.one (.int .u64)] λ(r:Int)(r1:Int) w3=>
gv r1 a1 0 λs c=>
gv r a2 c λs1 _=>
bnd (wu (s1*d1)) λn=>
bnd (wu (a1-n)) λn1=>
cl Pg F.aL [.int .u64 d0,.int .u64 s1] w3 [.one (.int .u64),.one (.int .u64)] λ(r2:Int)(r3:Int) w4=>
kP a0 r3 0 λs2 c2=>
kP n1 r2 c2 λs3 _=>
kP s2 d0 0 λs4 c4=>
kP s3 d1 c4 λs5 _=>
bnd (wu (s1+1)) λn2=>
Jn [.int .u64,.int .u64,.int .u64] (λJ1=>
cond (decide ((s5:Int)≥s)) (
bnd (wu (n2-1)) λn3=>
gv s4 d0 0 λs6 c6=>
gv s5 d1 c6 λs7 _=>
J1 s7 s6 n3 w4) (
J1 s5 s4 n2 w4)) λ(r11:Int)(r0:Int)(q1:Int) w5=>
cl Pg F.iI [.int .u64 r11,.int .u64 r0,.int .u64 d1,.int .u64 d0] w5 [.one .bool] λ(ok1:Bool) w6=>
Jn [.int .u64,.int .u64,.int .u64] (λJ2=>
cond (!ok1) (
bnd (wu (q1+1)) λn4=>
kP r0 d0 0 λs8 c8=>
kP r11 d1 c8 λs9 _=>
J2 s9 s8 n4 w6) (
J2 r11 r0 q1 w6)) λ(r12:Int)(r01:Int)(q11:Int) w7=>
R (.tuple #[.int .u64 q11,.int .u64 r12,.int .u64 r01,.bool true]) w7)
theorem Ct.jG{a2:Int}{v:Int}:CG (Sh.jG a2 a1 a0 d1 d0 v) F.jG [.int .u64 a2,.int .u64 a1,.int .u64 a0,.int .u64 d1,.int .u64 d0,.int .u64 v] [.one (.int .u64),.one (.int .u64),.one (.int .u64),.one .bool]:=cod 131 [] [] [(0,1,[(30,.one .bool)]),(1,14,[(13,.one (.int .u64)),(14,.one (.int .u64)),(16,.one (.int .u64))]),(1,18,[(13,.one (.int .u64)),(14,.one (.int .u64)),(16,.one (.int .u64))])] f192
def Sh.iI(a1:Int)(a0:Int)(b1:Int)(b0:Int):PR:=λR w=>
Jn [.bool] (λJ0=>
cond (decide ((a1:Int)<b1)) (
J0 true w) (
cond ((a1:Int) == b1) (
J0 (decide ((a0:Int)<b0)) w) (
J0 false w))) λ(x:Bool) w1=>
R (.bool x) w1
theorem Ct.iI{b1:Int}{b0:Int}:CG (Sh.iI a1 a0 b1 b0) F.iI [.int .u64 a1,.int .u64 a0,.int .u64 b1,.int .u64 b0] [.one .bool]:=cod 22 [] [] [(0,1,[(8,.one .bool)])] f226
end
end Go.Proofs.YtpbimnlggalnfaaGreatDoor.Zg
