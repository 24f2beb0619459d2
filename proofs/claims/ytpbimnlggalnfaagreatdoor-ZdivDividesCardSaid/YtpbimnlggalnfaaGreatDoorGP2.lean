/- A part of the proofs of this seat's laws. -/
import Derived.Test.YtpbimnlggalnfaaGreatDoorGC
set_option linter.unusedVariables false
set_option linter.unusedSimpArgs false
set_option linter.unnecessarySimpa false
namespace Go.Proofs.YtpbimnlggalnfaaGreatDoor.Zg
open Go.RowKit
section
set_option maxRecDepth 100000
open Go.Proofs.Tryz
variable {e0:Option Addr} {a b:Sl}
def Sh.au(e0:Option Addr)(a:Sl)(b:Sl):PR:=λR w=>
cl Pg F.jm [a.v] w [.one .slice] λ(s:Sl) w1=>
cl Pg F.jm [b.v] w1 [.one .slice] λ(s1:Sl) w2=>
cl Pg F.bB [.pointer e0,s.v,s1.v] w2 [.one .slice] λ(s2:Sl) w3=>
R (s2.v) w3
theorem Ct.au:CG (Sh.au e0 a b) F.au [.pointer e0,a.v,b.v] [.one .slice]:=cod 13 [] [] [] f100
def Sh.bB(e0:Option Addr)(a:Sl)(b:Sl):PR:=λR w=>
Jn [.bool] (λJ0=>
cond (decide (((a.n:Int):Int)>16384)) (
J0 true w) (
J0 (decide (((b.n:Int):Int)>16384)) w)) λ(x:Bool) w1=>
cond x (
cl Pg F.fx [.pointer e0,a.v,b.v] w1 [.one .slice] λ(s:Sl) w2=>
R (s.v) w2) (
nck e0 λa1=>
ldc (.ptr) w1 a1 λ(v:OA)=>
ch 2 w1 v λ(v3:OA)=>
cl Pg F.ep [.pointer v3,.int .i64 (a.n:Int),.int .i64 (b.n:Int)] w1 [.one (.int .i64)] λ(r:Int) w3=>
cl Pg F.fy [.pointer e0,.int .i64 r,a.v,b.v] w3 [.one .slice,.one .bool] λ(s1:Sl)(ok:Bool) w4=>
cond (!ok) (
ch 2 w4 e0 λ(v6:OA)=>
cl Pg F.cG [.pointer v6,a.v,b.v] w4 [.one .slice] λ(s2:Sl) w5=>
R (s2.v) w5) (
R (s1.v) w4))
theorem Ct.bB:CG (Sh.bB e0 a b) F.bB [.pointer e0,a.v,b.v] [.one .slice]:=cod 62 [] [] [(0,1,[(16,.one .bool)])] f122
def Sh.jm(a:Sl):PR:=λR w=>
cl Pg F.aO [a.v] w [.one (.int .i64)] λ(r:Int) w1=>
slc a 0 r 1 λs=>
R (s.v) w1
theorem Ct.jm:CG (Sh.jm a) F.jm [a.v] [.one .slice]:=cod 7 [] [] [] f123
def Sh.fx(e0:Option Addr)(a:Sl)(b:Sl):PR:=λR w=>
cl Pg F.cK [.pointer e0,a.v,b.v,.int .i64 16384] w [.one .slice] λ(s:Sl) w1=>
R (s.v) w1
theorem Ct.fx:CG (Sh.fx e0 a b) F.fx [.pointer e0,a.v,b.v] [.one .slice]:=cod 11 [] [] [] f152
def Sh.fy(e0:Option Addr)(route:Int)(a:Sl)(b:Sl):PR:=λR w=>
cond ((route:Int) == 0) (
R (.tuple #[.slice none 0 0,.bool true]) w) (
cond ((route:Int) == 1) (
nck e0 λa1=>
ldc (.ptr) w a1 λ(v:OA)=>
nck v λa2=>
ldc (.ptr) w a2 λ(v1:OA)=>
nck v1 λa3=>
ldc (.ptr) w a3 λ(v2:OA)=>
cl Pg F.cG [.pointer v2,a.v,b.v] w [.one .slice] λ(s:Sl) w1=>
R (.tuple #[s.v,.bool true]) w1) (
cond ((route:Int) == 2) (
cl Pg F.ez [.pointer e0,a.v,b.v] w [.one .slice] λ(s1:Sl) w2=>
R (.tuple #[s1.v,.bool true]) w2) (
cond ((route:Int) == 3) (
nck e0 λa4=>
ldc (.ptr) w a4 λ(v3:OA)=>
nck v3 λa5=>
ldc (.ptr) w a5 λ(v4:OA)=>
cl Pg F.eH [.pointer v4,a.v,b.v,.func (.func F.bB) #[.pointer e0] #[]] w [.one .slice,.one .bool] λ(s2:Sl)(ok:Bool) w3=>
R (.tuple #[s2.v,.bool ok]) w3) (
cond ((route:Int) == 4) (
nck e0 λa6=>
ldc (.ptr) w a6 λ(v5:OA)=>
cl Pg F.eo [.pointer v5,a.v,b.v,.func (.func F.bB) #[.pointer e0] #[]] w [.one .slice,.one .bool] λ(s3:Sl)(ok1:Bool) w4=>
R (.tuple #[s3.v,.bool ok1]) w4) (
cond ((route:Int) == 5) (
ch 3 w e0 λ(v9:OA)=>
nck v9 λa11=>
cl Pg F.kv [.pointer (some a11),a.v,b.v] w [.one .slice,.one .bool] λ(s4:Sl)(ok2:Bool) w5=>
R (.tuple #[s4.v,.bool ok2]) w5) (
R (.tuple #[.slice none 0 0,.bool false]) w))))))
theorem Ct.fy{route:Int}:CG (Sh.fy e0 route a b) F.fy [.pointer e0,.int .i64 route,a.v,b.v] [.one .slice,.one .bool]:=cod 85 [] [] [] f153
def Sh.cK(e0:Option Addr)(a:Sl)(b:Sl)(n:Int):PR:=λR w=>
Jn [.slice,.slice] (λJ0=>
cond (decide (((a.n:Int):Int)<(b.n:Int))) (
J0 b a w) (
J0 a b w)) λ(a1:Sl)(b1:Sl) w1=>
Jn [.slice] (λJ1=>
Lp [.slice,.int .i64] (λ(parts:Sl)(from0:Int) w2 C0=>
cond (decide ((from0:Int)<(a1.n:Int))) (
bnd (wi (from0+n)) λn1=>
bnd (if (n1:Int)<(a1.n:Int) then n1 else (a1.n:Int)) λn2=>
slc a1 from0 n2 1 λs=>
apd w2 T.an 1 8 Sl.nil s λs1 w3=>
cl Pg F.bB [.pointer e0,s1.v,b1.v] w3 [.one .slice] λ(s2:Sl) w4=>
nwb w4 [s2.v] T.bP λb2 w5=>
apd w5 T.bP 1 24 parts ⟨(some ⟨b2,0,none⟩),1,1⟩ λs3 w6=>
bnd (wi (from0+n)) λn3=>
C0 s3 n3 w6) (
J1 parts w2)) Sl.nil 0 w1) λ(parts1:Sl) w7=>
cl Pg F.cq [.int .i64 n,parts1.v] w7 [.one .slice] λ(s4:Sl) w8=>
R (s4.v) w8
theorem Ct.cK{n:Int}:CG (Sh.cK e0 a b n) F.cK [.pointer e0,a.v,b.v,.int .i64 n] [.one .slice]:=cod 44 [] [] [(1,2,[(1,.one .slice),(2,.one .slice)]),(2,0,[(9,.one .slice)]),(3,5,[(9,.one .slice),(10,.one (.int .i64))])] f185
def Sh.ez(e0:Option Addr)(a:Sl)(b:Sl):PR:=λR w=>
nck e0 λa1=>
ldc (.ptr) w a1 λ(v:OA)=>
ch 2 w v λ(v3:OA)=>
nck v3 λa5=>
cl Pg F.br [.pointer (some a5)] w [.one (.int .i64)] λ(_:Int) w1=>
bnd (if ((b.n:Int):Int)<(a.n:Int) then (b.n:Int) else (a.n:Int)) λn=>
cl Pg F.cK [.pointer e0,a.v,b.v,.int .i64 n] w1 [.one .slice] λ(s:Sl) w2=>
ch 3 w2 e0 λ(v7:OA)=>
nck v7 λa10=>
cl Pg F.bq [.pointer (some a10)] w2 [.one (.int .i64)] λ(_:Int) w3=>
R (s.v) w3
theorem Ct.ez:CG (Sh.ez e0 a b) F.ez [.pointer e0,a.v,b.v] [.one .slice]:=cod 50 [] [] [] f186
def Sh.mq(t:HL I11):PR:=λR w=>
nwv w λw1=>
cl Pg F.jS [.agg (aM I11 t).toArray] w1 [.one .ptr] λ(p:OA) w2=>
nwb w2 [.pointer p] T.yH λb w3=>
R (.pointer (some ⟨b,0,none⟩)) w3
theorem Ct.mq{t:HL I11}:CG (Sh.mq t) F.mq [.agg (aM I11 t).toArray] [.one .ptr]:=cod 7 [(1,7)] [(7,11)] [] f279
end
section
set_option maxRecDepth 100000
open Go.Proofs.Tryz
variable {m t:Option Addr} {a b:Sl}
def Sh.gq(t:Option Addr)(a:Sl)(b:Sl):PR:=λR w=>
Jn [.bool] (λJ0=>
cond (((a.n:Int):Int) == 0) (
J0 true w) (
cond (((b.n:Int):Int) == 0) (
J0 true w) (
cl Pg F.eK [.pointer t] w [.one (.int .i64)] λ(r:Int) w1=>
cond (decide (((a.n:Int):Int)>r)) (
J0 true w1) (
cl Pg F.eK [.pointer t] w1 [.one (.int .i64)] λ(r1:Int) w2=>
bnd (wi (r1+1)) λn=>
bnd (wi (n-(a.n:Int))) λn1=>
J0 (decide (((b.n:Int):Int)>n1)) w2)))) λ(x:Bool) w3=>
cond x (
R (.tuple #[.slice none 0 0,.bool false]) w3) (
cl Pg F.fw [.pointer t,a.v,b.v] w3 [.one .slice] λ(s:Sl) w4=>
bnd (wi ((a.n:Int)+(b.n:Int))) λn2=>
bnd (wi (n2-1)) λn3=>
slc s 0 n3 1 λs1=>
R (.tuple #[s1.v,.bool true]) w4)
theorem Ct.gq:CG (Sh.gq t a b) F.gq [.pointer t,a.v,b.v] [.one .slice,.one .bool]:=cod 45 [] [] [(0,1,[(33,.one .bool)])] f239
def Sh.kE(m:Option Addr)(p:Int)(log:Int):PR:=λR w=>
cl Pg F.jj [.int .u64 p,.int .i64 log] w [.one (.int .u64),.one (.int .i64)] λ(r:Int)(r1:Int) w1=>
cond ((r1:Int) != 0) (
R (.tuple #[.pointer none,.int .i64 r1]) w1) (
cl Pg F.i9 [.int .u64 p] w1 [.one .ptr,.one (.int .i64)] λ(p1:OA)(r2:Int) w2=>
cond ((r2:Int) != 0) (
R (.tuple #[.pointer none,.int .i64 r2]) w2) (
nwb w2 [.pointer p1,.pointer m,.int .i64 log,.slice none 0 0,.slice none 0 0,.slice none 0 0,.slice none 0 0,.int .u64 0] T.abI λb w3=>
bnd (wu (log)) λn=>
jv .u64 1 n λn1=>
cl Pg F.eF [.pointer p1,.int .u64 n1] w3 [.one (.int .u64),.one .bool] λ(r3:Int)(_:Bool) w4=>
stc w4 (Addr.add ⟨b,0,none⟩ 7) (.int .u64 r3) λw5=>
cl Pg F.eF [.pointer p1,.int .u64 r] w5 [.one (.int .u64),.one .bool] λ(r4:Int)(_:Bool) w6=>
d9 .u64 n1 2 λn2=>
bnd (wi (n2)) λn3=>
cl Pg F.iK [.pointer p1,.int .u64 r,.int .i64 n3] w6 [.one .slice,.one .slice] λ(s:Sl)(s1:Sl) w7=>
stc w7 (Addr.add ⟨b,0,none⟩ 3) s.v λw8=>
stc w8 (Addr.add ⟨b,0,none⟩ 5) s1.v λw9=>
d9 .u64 n1 2 λn4=>
bnd (wi (n4)) λn5=>
cl Pg F.iK [.pointer p1,.int .u64 r4,.int .i64 n5] w9 [.one .slice,.one .slice] λ(s2:Sl)(s3:Sl) w10=>
stc w10 (Addr.add ⟨b,0,none⟩ 4) s2.v λw11=>
stc w11 (Addr.add ⟨b,0,none⟩ 6) s3.v λw12=>
R (.tuple #[.pointer (some ⟨b,0,none⟩),.int .i64 0]) w12))
theorem Ct.kE{p:Int}{log:Int}:CG (Sh.kE m p log) F.kE [.pointer m,.int .u64 p,.int .i64 log] [.one .ptr,.one (.int .i64)]:=cod 86 [] [] [] f254
def Sh.eK(t:Option Addr):PR:=λR w=>
nck t λa=>
ldc (.int .i64) w (a.add 2) λ(v:Int)=>
bnd (wu (v)) λn=>
jv .i64 1 n λn1=>
R (.int .i64 n1) w
theorem Ct.eK:CG (Sh.eK t) F.eK [.pointer t] [.one (.int .i64)]:=cod 9 [] [] [] f257
def Sh.fw(t:Option Addr)(a:Sl)(b:Sl):PR:=λR w=>
cl Pg F.dp [.pointer t,a.v] w [.one .slice] λ(s:Sl) w1=>
cl Pg F.dp [.pointer t,b.v] w1 [.one .slice] λ(s1:Sl) w2=>
Jn [] (λJ0=>
Lp [.int .i64] (λ(x:Int) w3 C0=>
cond (decide ((x:Int)<(s.n:Int))) (
nck t λa1=>
ldc (.ptr) w3.drew a1 λ(v:OA)=>
ixa s x 1 λa2=>
ldc (.int .u64) w3.drew a2 λ(v1:Int)=>
ixa s1 x 1 λa3=>
ldc (.int .u64) w3.drew a3 λ(v2:Int)=>
cl Pg F.bf [.pointer v,.int .u64 v1,.int .u64 v2] w3.drew [.one (.int .u64)] λ(r:Int) w4=>
ixa s x 1 λa4=>
stc w4 a4 (.int .u64 r) λw5=>
bnd (wi (x+1)) λn=>
C0 n w5) (
J0 w3)) 0 w2) fun  w6=>
nck t λa5=>
ldc (.ptr) w6 (a5.add 1) λ(v3:OA)=>
cl Pg F.aS [.pointer v3,.int .i64 (s.n:Int)] w6 [.one (.int .i64)] λ(_:Int) w7=>
cl Pg F.ey [.pointer t,s.v] w7 [.one .slice] λ(s2:Sl) w8=>
R (s2.v) w8
theorem Ct.fw:CG (Sh.fw t a b) F.fw [.pointer t,a.v,b.v] [.one .slice]:=cod 48 [] [] [(2,0,[]),(3,3,[(18,.one (.int .i64))])] f258
def Sh.iK(m:Option Addr)(y:Int)(n:Int):PR:=λR w=>
Jn [.slice,.slice] (λJ0=>
(mks w.drew n n T.an 8 [.int .u64 0] λs w1=>
mks w1 n n T.an 8 [.int .u64 0] λs1 w2=>
J0 s s1 w2)∧
(mks w.drew n n T.an 8 [.int .u64 0] λs2 w3=>
mks w3 n n T.an 8 [.int .u64 0] λs3 w4=>
J0 s3 s2 w4)) λ(l:Sl)(s4:Sl) w5=>
Jn [] (λJ1=>
Lp [.int .u64,.int .i64] (λ(x:Int)(x1:Int) w6 C0=>
cond (decide ((x1:Int)<(l.n:Int))) (
ixa l x1 1 λa=>
stc w6 a (.int .u64 x) λw7=>
cl Pg F.fN [.pointer m,.int .u64 x] w7 [.one (.int .u64)] λ(r:Int) w8=>
ixa s4 x1 1 λa1=>
stc w8 a1 (.int .u64 r) λw9=>
cl Pg F.bf [.pointer m,.int .u64 x,.int .u64 y] w9 [.one (.int .u64)] λ(r1:Int) w10=>
bnd (wi (x1+1)) λn1=>
C0 r1 n1 w10) (
J1 w6)) 1 0 w5) fun  w11=>
R (.tuple #[l.v,s4.v]) w11
theorem Ct.iK{y:Int}{n:Int}:CG (Sh.iK m y n) F.iK [.pointer m,.int .u64 y,.int .i64 n] [.one .slice,.one .slice]:=cod 38 [] [] [(0,1,[(8,.one .slice),(9,.one .slice)]),(2,0,[]),(3,4,[(10,.one (.int .u64)),(18,.one (.int .i64))])] f264
def Sh.dp(t:Option Addr)(a:Sl):PR:=λR w=>
cl Pg F.dU [.pointer t,a.v] w [.one .slice] λ(s:Sl) w1=>
nck t λa1=>
ldc (.slice) w1.drew (a1.add 3) λ(v:Sl)=>
nck t λa2=>
ldc (.slice) w1.drew (a2.add 5) λ(v1:Sl)=>
cl Pg F.co [.pointer t,s.v,v.v,v1.v] w1.drew [] λw2=>
R (s.v) w2
theorem Ct.dp:CG (Sh.dp t a) F.dp [.pointer t,a.v] [.one .slice]:=cod 21 [] [] [] f265
def Sh.ey(t:Option Addr)(a:Sl):PR:=λR w=>
cl Pg F.dU [.pointer t,a.v] w [.one .slice] λ(s:Sl) w1=>
nck t λa1=>
ldc (.slice) w1.drew (a1.add 4) λ(v:Sl)=>
nck t λa2=>
ldc (.slice) w1.drew (a2.add 6) λ(v1:Sl)=>
cl Pg F.co [.pointer t,s.v,v.v,v1.v] w1.drew [] λw2=>
Jn [] (λJ0=>
Lp [.int .i64] (λ(x:Int) w3 C0=>
cond (decide ((x:Int)<(s.n:Int))) (
ixa s x 1 λa3=>
ldc (.int .u64) w3 a3 λ(v2:Int)=>
nck t λa4=>
ldc (.ptr) w3.drew a4 λ(v3:OA)=>
nck t λa5=>
ldc (.int .u64) w3.drew (a5.add 7) λ(v4:Int)=>
cl Pg F.bf [.pointer v3,.int .u64 v2,.int .u64 v4] w3.drew [.one (.int .u64)] λ(r:Int) w4=>
ixa s x 1 λa6=>
stc w4 a6 (.int .u64 r) λw5=>
bnd (wi (x+1)) λn=>
C0 n w5) (
J0 w3)) 0 w2) fun  w6=>
nck t λa7=>
ldc (.ptr) w6 (a7.add 1) λ(v5:OA)=>
cl Pg F.aS [.pointer v5,.int .i64 (s.n:Int)] w6 [.one (.int .i64)] λ(_:Int) w7=>
R (s.v) w7
theorem Ct.ey:CG (Sh.ey t a) F.ey [.pointer t,a.v] [.one .slice]:=cod 51 [] [] [(2,0,[]),(3,4,[(24,.one (.int .i64))])] f266
def Sh.dU(t:Option Addr)(a:Sl):PR:=λR w=>
cl Pg F.eK [.pointer t] w [.one (.int .i64)] λ(r:Int) w1=>
mks w1 r r T.an 8 [.int .u64 0] λs w2=>
Jn [] (λJ0=>
Lp [.int .i64] (λ(x:Int) w3 C0=>
cond (decide ((x:Int)<(a.n:Int))) (
ixa a x 1 λa1=>
ldc (.int .u64) w3 a1 λ(v:Int)=>
bnd (wu (x)) λn=>
nck t λa2=>
ldc (.int .i64) w3.drew (a2.add 2) λ(v1:Int)=>
bnd (wi (64-v1)) λn1=>
bnd (wu (n1)) λn2=>
nck t λa3=>
ldc (.ptr) w3.drew a3 λ(v2:OA)=>
cl Pg F.fP [.int .u64 n] w3.drew [.one (.int .u64)] λ(r1:Int) w4=>
hld w4 [(a3,.pointer v2),((a2.add 2),.int .i64 v1)] <|
gJ .u64 r1 n2 λn3=>
cl Pg F.fC [.pointer v2,.int .u64 v] w4 [.one (.int .u64)] λ(r2:Int) w5=>
hld w5 [((a2.add 2),.int .i64 v1)] <|
ixa s n3 1 λa4=>
stc w5 a4 (.int .u64 r2) λw6=>
bnd (wi (x+1)) λn4=>
C0 n4 w6) (
J0 w3)) 0 w2) fun  w7=>
R (s.v) w7
theorem Ct.dU:CG (Sh.dU t a) F.dU [.pointer t,a.v] [.one .slice]:=cod 38 [] [] [(2,0,[]),(3,3,[(13,.one (.int .i64))])] f270
def Sh.co(t:Option Addr)(a:Sl)(l:Sl)(s:Sl):PR:=λR w=>
nck t λa1=>
ldc (.ptr) w a1 λ(v:OA)=>
cl Pg F.iL [.pointer v] w [.one (.int .u64)] λ(r:Int) w1=>
Jn [] (λJ0=>
Lp [.int .i64] (λ(half:Int) w2 C0=>
cond (decide ((half:Int)<(a.n:Int))) (
bnd (wi (2*half)) λn=>
d9 .i64 (a.n:Int) n λn1=>
Jn [] (λJ1=>
Lp [.int .i64] (λ(from0:Int) w3 C1=>
cond (decide ((from0:Int)<(a.n:Int))) (
Jn [] (λJ2=>
Lp [.int .i64] (λ(j:Int) w4 C2=>
cond (decide ((j:Int)<half)) (
bnd (wi (from0+j)) λn2=>
ixa a n2 1 λa2=>
ldc (.int .u64) w4 a2 λ(v1:Int)=>
nck t λa3=>
ldc (.ptr) w4.drew a3 λ(v2:OA)=>
bnd (wi (from0+half)) λn3=>
bnd (wi (n3+j)) λn4=>
ixa a n4 1 λa4=>
ldc (.int .u64) w4.drew a4 λ(v3:Int)=>
bnd (wi (j*n1)) λn5=>
ixa l n5 1 λa5=>
ldc (.int .u64) w4.drew a5 λ(v4:Int)=>
bnd (wi (j*n1)) λn6=>
ixa s n6 1 λa6=>
ldc (.int .u64) w4.drew a6 λ(v5:Int)=>
cl Pg F.dJ [.pointer v2,.int .u64 v3,.int .u64 v4,.int .u64 v5] w4.drew [.one (.int .u64)] λ(r1:Int) w5=>
bnd (wu (v1+r1)) λn7=>
Jn [.int .u64] (λJ3=>
cond (decide ((n7:Int)≥r)) (
bnd (wu (n7-r)) λn8=>
J3 n8 w5) (
J3 n7 w5)) λ(sum:Int) w6=>
bnd (wi (from0+j)) λn9=>
ixa a n9 1 λa7=>
stc w6 a7 (.int .u64 sum) λw7=>
Jn [.int .u64] (λJ4=>
cond (decide ((v1:Int)<r1)) (
bnd (wu (v1+r)) λn10=>
J4 n10 w7) (
J4 v1 w7)) λ(x:Int) w8=>
bnd (wi (from0+half)) λn11=>
bnd (wi (n11+j)) λn12=>
bnd (wu (x-r1)) λn13=>
ixa a n12 1 λa8=>
stc w8 a8 (.int .u64 n13) λw9=>
bnd (wi (j+1)) λn14=>
C2 n14 w9) (
J2 w4)) 0 w3) fun  w10=>
bnd (wi (2*half)) λn15=>
bnd (wi (from0+n15)) λn16=>
C1 n16 w10) (
J1 w3)) 0 w2) fun  w11=>
bnd (wi (2*half)) λn17=>
C0 n17 w11) (
J0 w2)) 1 w1) fun  w12=>
nck t λa9=>
ldc (.ptr) w12.drew (a9.add 1) λ(v6:OA)=>
d9 .i64 (a.n:Int) 2 λn18=>
nck t λa10=>
ldc (.int .i64) w12.drew (a10.add 2) λ(v7:Int)=>
bnd (wi (n18*v7)) λn19=>
cl Pg F.aS [.pointer v6,.int .i64 n19] w12.drew [.one (.int .i64)] λ(_:Int) w13=>
hld w13 [((a10.add 2),.int .i64 v7)] <|
R (.tuple #[]) w13
theorem Ct.co{l:Sl}{s:Sl}:CG (Sh.co t a l s) F.co [.pointer t,a.v,l.v,s.v] []:=cod 120 [] [] [(2,0,[]),(3,2,[(9,.one (.int .i64))]),(2,2,[]),(3,6,[(11,.one (.int .i64))]),(2,4,[]),(3,9,[(12,.one (.int .i64))]),(1,15,[(15,.one (.int .u64))]),(1,18,[(13,.one (.int .u64))])] f271
end
section
set_option maxRecDepth 100000
open Go.Proofs.Tryz
variable {a0 b0:Sl} {a1 b1:Bool}
def Sh.gz(n:Int):PR:=λR w=>
nwv w λw1=>
cond (decide ((n:Int)<0)) (
bnd (wu (n)) λn1=>
bnd (wu (0-n1)) λn2=>
cl Pg F.aX [.int .u64 n2] w1 [.one .slice] λ(s:Sl) w2=>
cl Pg F.eY [s.v,.bool true] w2 [.agg [.slice,.bool]] λ(r:Sl)(r1:Bool) w3=>
nwv w3 λw4=>
R (.agg #[r.v,.bool r1]) w4) (
bnd (wu (n)) λn3=>
cl Pg F.aX [.int .u64 n3] w1 [.one .slice] λ(s1:Sl) w5=>
cl Pg F.eY [s1.v,.bool false] w5 [.agg [.slice,.bool]] λ(r2:Sl)(r3:Bool) w6=>
nwv w6 λw7=>
R (.agg #[r2.v,.bool r3]) w7)
theorem Ct.gz{n:Int}:CG (Sh.gz n) F.gz [.int .i64 n] [.agg [.slice,.bool]]:=cod 14 [(2,14)] [(14,2)] [] f63
def Sh.ln(a0:Sl)(a1:Bool)(b0:Sl)(b1:Bool):PR:=λR w=>
nwv w λw1=>
nwv w1 λw2=>
cl Pg F.gi [.agg #[a0.v,.bool a1]] w2.drew [.one (.int .i64)] λ(r:Int) w3=>
cl Pg F.gi [.agg #[b0.v,.bool b1]] w3 [.one (.int .i64)] λ(r1:Int) w4=>
cond ((r:Int) != r1) (
cond (decide ((r:Int)<r1)) (
R (.int .i64 (-1)) w4) (
R (.int .i64 1) w4)) (
cl Pg F.cO [a0.v,b0.v] w4 [.one (.int .i64)] λ(r2:Int) w5=>
cond (decide ((r:Int)<0)) (
bnd (wi (0-r2)) λn=>
R (.int .i64 n) w5) (
R (.int .i64 r2) w5))
theorem Ct.ln:CG (Sh.ln a0 a1 b0 b1) F.ln [.agg #[a0.v,.bool a1],.agg #[b0.v,.bool b1]] [.one (.int .i64)]:=cod 28 [(2,28),(3,30)] [(28,2),(30,2)] [] f65
def Sh.lm(a0:Sl)(a1:Bool):PR:=λR w=>
nwv w λw1=>
nwv w1 λw2=>
cl Pg F.aF [a0.v] w2.drew [.one .slice] λ(s:Sl) w3=>
cl Pg F.eY [s.v,.bool (!a1)] w3 [.agg [.slice,.bool]] λ(r:Sl)(r1:Bool) w4=>
nwv w4 λw5=>
R (.agg #[r.v,.bool r1]) w5
theorem Ct.lm:CG (Sh.lm a0 a1) F.lm [.agg #[a0.v,.bool a1]] [.agg [.slice,.bool]]:=cod 10 [(1,10),(2,12)] [(10,2),(12,2)] [] f68
def Sh.kD(a0:Sl)(a1:Bool)(b0:Sl)(b1:Bool):PR:=λR w=>
nwv w λw1=>
nwv w1 λw2=>
nwv w2 λw3=>
cl Pg F.jE [.agg #[a0.v,.bool a1],.agg #[b0.v,.bool (!b1)]] w3 [.agg [.slice,.bool]] λ(r:Sl)(r1:Bool) w4=>
nwv w4 λw5=>
R (.agg #[r.v,.bool r1]) w5
theorem Ct.kD:CG (Sh.kD a0 a1 b0 b1) F.kD [.agg #[a0.v,.bool a1],.agg #[b0.v,.bool b1]] [.agg [.slice,.bool]]:=cod 13 [(2,13),(3,15),(4,17)] [(13,2),(15,2),(17,2)] [] f70
def Sh.aE(e0:Option Addr)(a0:Sl)(a1:Bool)(b0:Sl)(b1:Bool):PR:=λR w=>
nwv w λw1=>
nwv w1 λw2=>
nwv w2 λw3=>
nck e0 λa2=>
ldc (.ptr) w3.drew a2 λ(v:OA)=>
nck v λa3=>
ldc (.ptr) w3.drew a3 λ(v1:OA)=>
nck v1 λa4=>
ldc (.ptr) w3.drew a4 λ(v2:OA)=>
cl Pg F.eJ [.pointer v2,a0.v,b0.v] w3.drew [.one .slice,.one (.int .i64)] λ(s:Sl)(r:Int) w4=>
hld w4 [(a3,.pointer v1),(a2,.pointer v)] <|
cond ((r:Int) != 0) (
nwv w4 λw5=>
R (.tuple #[.agg #[.slice none 0 0,.bool false],.int .i64 r]) w5) (
cl Pg F.eY [s.v,.bool (!(a1 == b1))] w4 [.agg [.slice,.bool]] λ(r1:Sl)(r2:Bool) w6=>
nwv w6 λw7=>
R (.tuple #[.agg #[r1.v,.bool r2],.int .i64 0]) w7)
theorem Ct.aE{e0:Option Addr}:CG (Sh.aE e0 a0 a1 b0 b1) F.aE [.pointer e0,.agg #[a0.v,.bool a1],.agg #[b0.v,.bool b1]] [.agg [.slice,.bool],.one (.int .i64)]:=cod 39 [(4,39),(5,41),(6,43)] [(39,2),(41,2),(43,2)] [] f72
def Sh.i8(a0:Sl)(a1:Bool):PR:=λR w=>
nwv w λw1=>
nwv w1 λw2=>
cl Pg F.aF [a0.v] w2.drew [.one .slice] λ(s:Sl) w3=>
cl Pg F.eY [s.v,.bool a1] w3 [.agg [.slice,.bool]] λ(r:Sl)(r1:Bool) w4=>
nwv w4 λw5=>
R (.agg #[r.v,.bool r1]) w5
theorem Ct.i8:CG (Sh.i8 a0 a1) F.i8 [.agg #[a0.v,.bool a1]] [.agg [.slice,.bool]]:=cod 9 [(1,9),(2,11)] [(9,2),(11,2)] [] f87
def Sh.eY(size:Sl)(neg:Bool):PR:=λR w=>
nwv w λw1=>
Jn [.slice,.bool] (λJ0=>
cond neg (
cl Pg F.aB [size.v] w1 [.one .bool] λ(ok:Bool) w2=>
nwv w2 λw3=>
J0 size (!ok) w3) (
nwv w1 λw4=>
J0 size false w4)) λ(x:Sl)(x1:Bool) w5=>
R (.agg #[x.v,.bool x1]) w5
theorem Ct.eY{size:Sl}{neg:Bool}:CG (Sh.eY size neg) F.eY [size.v,.bool neg] [.agg [.slice,.bool]]:=cod 13 [(4,13)] [(13,2)] [(0,1,[(13,.one .slice),(14,.one .bool)])] f91
def Sh.jE(a0:Sl)(a1:Bool)(b0:Sl)(b1:Bool):PR:=λR w=>
nwv w λw1=>
nwv w1 λw2=>
nwv w2 λw3=>
cond (a1 == b1) (
cl Pg F.bG [a0.v,b0.v] w3.drew [.one .slice] λ(s:Sl) w4=>
cl Pg F.eY [s.v,.bool a1] w4 [.agg [.slice,.bool]] λ(r:Sl)(r1:Bool) w5=>
nwv w5 λw6=>
R (.agg #[r.v,.bool r1]) w6) (
cl Pg F.aP [a0.v,b0.v] w3 [.one .slice,.one .bool] λ(s1:Sl)(ok:Bool) w7=>
cond ok (
cl Pg F.eY [s1.v,.bool a1] w7 [.agg [.slice,.bool]] λ(r2:Sl)(r3:Bool) w8=>
nwv w8 λw9=>
R (.agg #[r2.v,.bool r3]) w9) (
cl Pg F.aP [b0.v,a0.v] w7 [.one .slice,.one .bool] λ(s2:Sl)(_:Bool) w10=>
cl Pg F.eY [s2.v,.bool b1] w10 [.agg [.slice,.bool]] λ(r4:Sl)(r5:Bool) w11=>
nwv w11 λw12=>
R (.agg #[r4.v,.bool r5]) w12))
theorem Ct.jE:CG (Sh.jE a0 a1 b0 b1) F.jE [.agg #[a0.v,.bool a1],.agg #[b0.v,.bool b1]] [.agg [.slice,.bool]]:=cod 47 [(2,47),(3,49),(4,51)] [(47,2),(49,2),(51,2)] [] f101
def Sh.ml(t:HL I11):PR:=λR w=>
nwv w λw1=>
cl Pg F.ki [.agg (aM I11 t).toArray] w1 [.one .ptr] λ(p:OA) w2=>
nwb w2 [.pointer p] T.yG λb w3=>
R (.pointer (some ⟨b,0,none⟩)) w3
theorem Ct.ml{t:HL I11}:CG (Sh.ml t) F.ml [.agg (aM I11 t).toArray] [.one .ptr]:=cod 7 [(1,7)] [(7,11)] [] f230
end
section
set_option maxRecDepth 100000
open Go.Proofs.Tryz
variable {e0:Option Addr} {a b:Sl} {k:Int}
def Sh.kl(t:HL I11)(p:Int):PR:=λR w=>
nwv w λw1=>
cl Pg F.jL [.int .u64 p] w1 [.one .ptr,.one (.int .i64)] λ(p1:OA)(r:Int) w2=>
cond ((r:Int) != 0) (
R (.tuple #[.pointer none,.int .i64 r]) w2) (
cl Pg F.ko [.agg (aM I11 t).toArray] w2 [.one .ptr] λ(p2:OA) w3=>
nwb w3 [.pointer p1,.pointer p2] T.wL λb w4=>
R (.tuple #[.pointer (some ⟨b,0,none⟩),.int .i64 0]) w4)
theorem Ct.kl{t:HL I11}{p:Int}:CG (Sh.kl t p) F.kl [.agg (aM I11 t).toArray,.int .u64 p] [.one .ptr,.one (.int .i64)]:=cod 21 [(2,21)] [(21,11)] [] f145
def Sh.fu(e0:Option Addr)(a:Sl)(b:Sl):PR:=λR w=>
nck e0 λa1=>
ldc (.ptr) w.drew a1 λ(v:OA)=>
nck e0 λa2=>
ldc (.ptr) w.drew a2 λ(v1:OA)=>
cl Pg F.aw [.pointer v,a.v] w.drew [.one .slice] λ(s:Sl) w1=>
hld w1 [(a2,.pointer v1)] <|
cl Pg F.aw [.pointer v1,b.v] w1 [.one .slice] λ(s1:Sl) w2=>
nck e0 λa3=>
ldc (.ptr) w2 (a3.add 1) λ(v2:OA)=>
ch 13 w2 v2 λ(v16:OA)=>
nck v16 λa18=>
tbl w2 a18 λ(_:Int)(_:Int)(v19:Int)(_:Int)(_:Int)(_:Int)(_:Int)(v24:Int)(v25:Int)(_:Int)(_:Int)=>
nwv w2 λw3=>
nwv w3 λw4=>
bnd (if ((s1.n:Int):Int)<(s.n:Int) then (s1.n:Int) else (s.n:Int)) λn=>
cond (decide ((n:Int)<v24)) (
nck e0 λa19=>
ldc (.ptr) w4 a19 λ(v28:OA)=>
cl Pg F.dk [.pointer v28,s.v,s1.v] w4 [.one .slice] λ(s2:Sl) w5=>
R (s2.v) w5) (
cond (decide ((n:Int)<v25)) (
cl Pg F.aH [.pointer e0,s.v,s1.v] w4 [.one .slice] λ(s3:Sl) w6=>
R (s3.v) w6) (
bnd (wi ((s.n:Int)+(s1.n:Int))) λn1=>
cond (decide ((n1:Int)≥v19)) (
cl Pg F.ft [.pointer e0,s.v,s1.v] w4 [.one .slice] λ(s4:Sl) w7=>
R (s4.v) w7) (
cl Pg F.et [.pointer e0,s.v,s1.v] w4 [.one .slice] λ(s5:Sl) w8=>
R (s5.v) w8)))
theorem Ct.fu:CG (Sh.fu e0 a b) F.fu [.pointer e0,a.v,b.v] [.one .slice]:=cod 113 [(7,113)] [(113,11)] [] f146
def Sh.aH(e0:Option Addr)(a:Sl)(b:Sl):PR:=λR w=>
Jn [.slice,.slice] (λJ0=>
cond (decide (((a.n:Int):Int)<(b.n:Int))) (
J0 b a w) (
J0 a b w)) λ(a1:Sl)(b1:Sl) w1=>
nck e0 λa2=>
ldc (.ptr) w1 (a2.add 1) λ(v:OA)=>
ch 13 w1 v λ(v14:OA)=>
nck v14 λa17=>
ldc (.int .i64) w1 ((a17.add 3).add 7) λ(v15:Int)=>
cond (decide (((b1.n:Int):Int)<v15)) (
nck e0 λa18=>
ldc (.ptr) w1 a18 λ(v16:OA)=>
cl Pg F.dk [.pointer v16,a1.v,b1.v] w1 [.one .slice] λ(s:Sl) w2=>
R (s.v) w2) (
bnd (wi ((a1.n:Int)+1)) λn=>
d9 .i64 n 2 λn1=>
nck e0 λa19=>
ldc (.ptr) w1.drew a19 λ(v17:OA)=>
slc a1 0 n1 1 λs1=>
slc a1 n1 (a1.n:Nat) 1 λs2=>
cl Pg F.aw [.pointer v17,s1.v] w1.drew [.one .slice] λ(s3:Sl) w3=>
cond (decide (((b1.n:Int):Int)≤n1)) (
nck e0 λa20=>
ldc (.ptr) w3.drew a20 λ(v18:OA)=>
cl Pg F.aH [.pointer e0,s3.v,b1.v] w3.drew [.one .slice] λ(s4:Sl) w4=>
hld w4 [(a20,.pointer v18)] <|
cl Pg F.aH [.pointer e0,s2.v,b1.v] w4 [.one .slice] λ(s5:Sl) w5=>
hld w5 [(a20,.pointer v18)] <|
cl Pg F.bS [.pointer e0,s5.v,.int .i64 n1] w5 [.one .slice] λ(s6:Sl) w6=>
hld w6 [(a20,.pointer v18)] <|
nwb w6 [s4.v,s6.v] T.jy λb2 w7=>
hld w7 [(a20,.pointer v18)] <|
cl Pg F.aR [.pointer v18,.slice (some ⟨b2,0,none⟩) 2 2] w7 [.one .slice] λ(s7:Sl) w8=>
R (s7.v) w8) (
nck e0 λa21=>
ldc (.ptr) w3.drew a21 λ(v19:OA)=>
slc b1 0 n1 1 λs8=>
slc b1 n1 (b1.n:Nat) 1 λs9=>
cl Pg F.aw [.pointer v19,s8.v] w3.drew [.one .slice] λ(s10:Sl) w9=>
cl Pg F.aH [.pointer e0,s3.v,s10.v] w9 [.one .slice] λ(s11:Sl) w10=>
cl Pg F.aH [.pointer e0,s2.v,s9.v] w10 [.one .slice] λ(s12:Sl) w11=>
Jn [.slice] (λJ1=>
nck e0 λa22=>
ldc (.ptr) w11.drew a22 λ(v20:OA)=>
nck e0 λa23=>
ldc (.ptr) w11.drew a23 λ(v21:OA)=>
(nwb w11.drew [s3.v,s2.v] T.jy λb3 w12=>
hld w12 [(a23,.pointer v21),(a22,.pointer v20)] <|
(cl Pg F.aR [.pointer v20,.slice (some ⟨b3,0,none⟩) 2 2] w12 [.one .slice] λ(s13:Sl) w13=>
hld w13 [(a23,.pointer v21)] <|
nwb w13 [s10.v,s9.v] T.jy λb4 w14=>
hld w14 [(a23,.pointer v21)] <|
cl Pg F.aR [.pointer v21,.slice (some ⟨b4,0,none⟩) 2 2] w14 [.one .slice] λ(s14:Sl) w15=>
cl Pg F.aH [.pointer e0,s13.v,s14.v] w15 [.one .slice] λ(s15:Sl) w16=>
J1 s15 w16)∧
(nwb w12 [s10.v,s9.v] T.jy λb5 w17=>
hld w17 [(a23,.pointer v21),(a22,.pointer v20)] <|
cl Pg F.aR [.pointer v20,.slice (some ⟨b3,0,none⟩) 2 2] w17 [.one .slice] λ(s16:Sl) w18=>
hld w18 [(a23,.pointer v21)] <|
cl Pg F.aR [.pointer v21,.slice (some ⟨b5,0,none⟩) 2 2] w18 [.one .slice] λ(s17:Sl) w19=>
cl Pg F.aH [.pointer e0,s16.v,s17.v] w19 [.one .slice] λ(s18:Sl) w20=>
J1 s18 w20))∧
(nwb w11.drew [s10.v,s9.v] T.jy λb6 w21=>
hld w21 [(a23,.pointer v21),(a22,.pointer v20)] <|
nwb w21 [s3.v,s2.v] T.jy λb7 w22=>
hld w22 [(a23,.pointer v21),(a22,.pointer v20)] <|
cl Pg F.aR [.pointer v20,.slice (some ⟨b7,0,none⟩) 2 2] w22 [.one .slice] λ(s19:Sl) w23=>
hld w23 [(a23,.pointer v21)] <|
cl Pg F.aR [.pointer v21,.slice (some ⟨b6,0,none⟩) 2 2] w23 [.one .slice] λ(s20:Sl) w24=>
cl Pg F.aH [.pointer e0,s19.v,s20.v] w24 [.one .slice] λ(s21:Sl) w25=>
J1 s21 w25)) λ(both:Sl) w26=>
nck e0 λa24=>
ldc (.ptr) w26.drew a24 λ(v22:OA)=>
nck e0 λa25=>
ldc (.ptr) w26.drew a25 λ(v23:OA)=>
nwb w26.drew [s11.v,s12.v] T.jy λb8 w27=>
hld w27 [(a25,.pointer v23),(a24,.pointer v22)] <|
cl Pg F.aR [.pointer v23,.slice (some ⟨b8,0,none⟩) 2 2] w27 [.one .slice] λ(s22:Sl) w28=>
hld w28 [(a24,.pointer v22)] <|
cl Pg F.es [.pointer v22,both.v,s22.v] w28 [.one .slice] λ(s23:Sl) w29=>
nck e0 λa26=>
ldc (.ptr) w29.drew a26 λ(v24:OA)=>
bnd (wi (2*n1)) λn2=>
cl Pg F.bS [.pointer e0,s23.v,.int .i64 n1] w29.drew [.one .slice] λ(s24:Sl) w30=>
hld w30 [(a26,.pointer v24)] <|
cl Pg F.bS [.pointer e0,s12.v,.int .i64 n2] w30 [.one .slice] λ(s25:Sl) w31=>
hld w31 [(a26,.pointer v24)] <|
nwb w31 [s11.v,s24.v,s25.v] T.jy λb9 w32=>
hld w32 [(a26,.pointer v24)] <|
cl Pg F.aR [.pointer v24,.slice (some ⟨b9,0,none⟩) 3 3] w32 [.one .slice] λ(s26:Sl) w33=>
R (s26.v) w33))
theorem Ct.aH:CG (Sh.aH e0 a b) F.aH [.pointer e0,a.v,b.v] [.one .slice]:=cod 186 [] [] [(1,2,[(1,.one .slice),(2,.one .slice)]),(0,11,[(14,.one .slice)])] f178
def Sh.ft(e0:Option Addr)(a:Sl)(b:Sl):PR:=λR w=>
nck e0 λa1=>
ldc (.ptr) w.drew a1 λ(v:OA)=>
nck e0 λa2=>
ldc (.ptr) w.drew a2 λ(v1:OA)=>
cl Pg F.aw [.pointer v,a.v] w.drew [.one .slice] λ(s:Sl) w1=>
hld w1 [(a2,.pointer v1)] <|
cl Pg F.aw [.pointer v1,b.v] w1 [.one .slice] λ(s1:Sl) w2=>
Jn [.bool] (λJ0=>
cond (((s.n:Int):Int) == 0) (
J0 true w2) (
J0 (((s1.n:Int):Int) == 0) w2)) λ(x:Bool) w3=>
cond x (
R (.slice none 0 0) w3) (
nck e0 λa3=>
ldc (.ptr) w3 (a3.add 1) λ(v2:OA)=>
ch 13 w3 v2 λ(v16:OA)=>
nck v16 λa18=>
cl Pg F.iM [.pointer (some a18),s.v,s1.v] w3 [.one .slice,.one .bool] λ(s2:Sl)(ok:Bool) w4=>
cond (!ok) (
cl Pg F.aH [.pointer e0,s.v,s1.v] w4 [.one .slice] λ(s3:Sl) w5=>
R (s3.v) w5) (
mks w4 (s2.n:Int) (s2.n:Int) T.an 8 [.int .u64 0] λs4 w6=>
Jn [] (λJ1=>
Lp [.int .i64] (λ(x1:Int) w7 C0=>
cond (decide ((x1:Int)<(s2.n:Int))) (
ixa s2 x1 3 λa19=>
ldc (.int .u64) w7 (a19.add 0) λ(v17:Int)=>
ldc (.int .u64) w7 (a19.add 1) λ(v18:Int)=>
ldc (.int .u64) w7 (a19.add 2) λ(v19:Int)=>
nwv w7 λw8=>
nwv w8 λw9=>
cl Pg F.bN [.pointer e0,.agg #[.int .u64 v17,.int .u64 v18,.int .u64 v19]] w9 [.one (.int .u64)] λ(r:Int) w10=>
ixa s4 x1 1 λa20=>
stc w10 a20 (.int .u64 r) λw11=>
bnd (wi (x1+1)) λn=>
C0 n w11) (
J1 w7)) 0 w6) fun  w12=>
nck e0 λa21=>
ldc (.ptr) w12 a21 λ(v20:OA)=>
cl Pg F.aw [.pointer v20,s4.v] w12 [.one .slice] λ(s5:Sl) w13=>
R (s5.v) w13))
theorem Ct.ft:CG (Sh.ft e0 a b) F.ft [.pointer e0,a.v,b.v] [.one .slice]:=cod 115 [(11,115)] [(115,3)] [(0,2,[(31,.one .bool)]),(2,0,[]),(3,9,[(97,.one (.int .i64))])] f179
def Sh.et(e0:Option Addr)(a:Sl)(b:Sl):PR:=λR w=>
nck e0 λa1=>
ldc (.ptr) w.drew a1 λ(v:OA)=>
nck e0 λa2=>
ldc (.ptr) w.drew a2 λ(v1:OA)=>
cl Pg F.aw [.pointer v,a.v] w.drew [.one .slice] λ(s:Sl) w1=>
hld w1 [(a2,.pointer v1)] <|
cl Pg F.aw [.pointer v1,b.v] w1 [.one .slice] λ(s1:Sl) w2=>
Jn [.bool] (λJ0=>
cond (((s.n:Int):Int) == 0) (
J0 true w2) (
J0 (((s1.n:Int):Int) == 0) w2)) λ(x:Bool) w3=>
cond x (
R (.slice none 0 0) w3) (
nck e0 λa3=>
ldc (.ptr) w3 a3 λ(v2:OA)=>
nck v2 λa4=>
ldc (.ptr) w3 a4 λ(v3:OA)=>
cl Pg F.iL [.pointer v3] w3 [.one (.int .u64)] λ(r:Int) w4=>
bnd (wu (r-1)) λn=>
cl Pg F.fI [.int .u64 n] w4 [.one (.int .i64)] λ(r1:Int) w5=>
bnd (wi (2*r1)) λn1=>
bnd (if ((s1.n:Int):Int)<(s.n:Int) then (s1.n:Int) else (s.n:Int)) λn2=>
bnd (wu (n2)) λn3=>
cl Pg F.jX [.int .u64 n3] w5 [.one (.int .i64)] λ(r2:Int) w6=>
bnd (wi (n1+r2)) λn4=>
bnd (wi (n4+63)) λn5=>
d9 .i64 n5 64 λn6=>
nck e0 λa5=>
ldc (.ptr) w6.drew (a5.add 1) λ(v4:OA)=>
nck v4 λa6=>
ldc (.ptr) w6.drew a6 λ(v5:OA)=>
nck v5 λa7=>
ldc (.ptr) w6.drew a7 λ(v6:OA)=>
nck v6 λa8=>
ldc (.ptr) w6.drew a8 λ(v7:OA)=>
nck v7 λa9=>
ldc (.ptr) w6.drew a9 λ(v8:OA)=>
nck v8 λa10=>
ldc (.ptr) w6.drew a10 λ(v9:OA)=>
nck v9 λa11=>
ldc (.ptr) w6.drew a11 λ(v10:OA)=>
nck v10 λa12=>
ldc (.ptr) w6.drew a12 λ(v11:OA)=>
nck v11 λa13=>
ldc (.ptr) w6.drew a13 λ(v12:OA)=>
nck v12 λa14=>
ldc (.ptr) w6.drew a14 λ(v13:OA)=>
nck v13 λa15=>
ldc (.ptr) w6.drew a15 λ(v14:OA)=>
cl Pg F.ig [s.v,.int .i64 n6] w6.drew [.one .slice] λ(s2:Sl) w7=>
hld w7 [(a15,.pointer v14),(a14,.pointer v13),(a13,.pointer v12),(a12,.pointer v11),(a11,.pointer v10),(a10,.pointer v9),(a9,.pointer v8),(a8,.pointer v7),(a7,.pointer v6),(a6,.pointer v5),((a5.add 1),.pointer v4)] <|
cl Pg F.ig [s1.v,.int .i64 n6] w7 [.one .slice] λ(s3:Sl) w8=>
hld w8 [(a15,.pointer v14),(a14,.pointer v13),(a13,.pointer v12),(a12,.pointer v11),(a11,.pointer v10),(a10,.pointer v9),(a9,.pointer v8),(a8,.pointer v7),(a7,.pointer v6),(a6,.pointer v5),((a5.add 1),.pointer v4)] <|
cl Pg F.au [.pointer v14,s2.v,s3.v] w8 [.one .slice] λ(s4:Sl) w9=>
hld w9 [(a14,.pointer v13),(a13,.pointer v12),(a12,.pointer v11),(a11,.pointer v10),(a10,.pointer v9),(a9,.pointer v8),(a8,.pointer v7),(a7,.pointer v6),(a6,.pointer v5),((a5.add 1),.pointer v4)] <|
bnd (wi ((s.n:Int)+(s1.n:Int))) λn7=>
bnd (wi (n7-1)) λn8=>
mks w9 n8 n8 T.an 8 [.int .u64 0] λs5 w10=>
Jn [] (λJ1=>
Lp [.int .i64] (λ(x1:Int) w11 C0=>
cond (decide ((x1:Int)<(s5.n:Int))) (
nwb w11 [.int .u64 0,.int .u64 0,.int .u64 0] T.iJ λb1 w12=>
Jn [] (λJ2=>
Lp [.int .i64] (λ(j:Int) w13 C1=>
Jn [.bool] (λJ3=>
cond (decide ((j:Int)<n6)) (
bnd (wi (n6*x1)) λn9=>
bnd (wi (n9+j)) λn10=>
J3 (decide ((n10:Int)<(s4.n:Int))) w13) (
J3 false w13)) λ(x2:Bool) w14=>
cond x2 (
bnd (wi (n6*x1)) λn11=>
bnd (wi (n11+j)) λn12=>
ixa s4 n12 1 λa16=>
ldc (.int .u64) w14 a16 λ(v15:Int)=>
ixp ⟨b1,0,none⟩ j 3 1 λa17=>
stc w14 a17 (.int .u64 v15) λw15=>
bnd (wi (j+1)) λn13=>
C1 n13 w15) (
J2 w14)) 0 w12) fun  w16=>
ldc (.int .u64) w16 (Addr.add ⟨b1,0,none⟩ 0) λ(v16:Int)=>
ldc (.int .u64) w16 (Addr.add ⟨b1,0,none⟩ 1) λ(v17:Int)=>
ldc (.int .u64) w16 (Addr.add ⟨b1,0,none⟩ 2) λ(v18:Int)=>
cl Pg F.bN [.pointer e0,.agg #[.int .u64 v16,.int .u64 v17,.int .u64 v18]] w16 [.one (.int .u64)] λ(r3:Int) w17=>
ixa s5 x1 1 λa18=>
stc w17 a18 (.int .u64 r3) λw18=>
bnd (wi (x1+1)) λn14=>
C0 n14 w18) (
J1 w11)) 0 w10) fun  w19=>
nck e0 λa19=>
ldc (.ptr) w19 a19 λ(v19:OA)=>
cl Pg F.aw [.pointer v19,s5.v] w19 [.one .slice] λ(s6:Sl) w20=>
R (s6.v) w20)
theorem Ct.et:CG (Sh.et e0 a b) F.et [.pointer e0,a.v,b.v] [.one .slice]:=cod 147 [] [] [(0,2,[(33,.one .bool)]),(2,0,[]),(3,9,[(106,.one (.int .i64))]),(2,2,[]),(3,13,[(13,.one (.int .i64))]),(0,13,[(121,.one .bool)])] f180
def Sh.bS(e0:Option Addr)(a:Sl)(k:Int):PR:=λR w=>
cond (((a.n:Int):Int) == 0) (
R (.slice none 0 0) w) (
mks w k k T.an 8 [.int .u64 0] λs w1=>
apd w1 T.an 1 8 s a λs1 w2=>
R (s1.v) w2)
theorem Ct.bS:CG (Sh.bS e0 a k) F.bS [.pointer e0,a.v,.int .i64 k] [.one .slice]:=cod 14 [] [] [] f210
def Sh.bN(e0:Option Addr)(y0:Int)(y1:Int)(y2:Int):PR:=λR w=>
nwv w λw1=>
nck e0 λa=>
ldc (.ptr) w1 a λ(v:OA)=>
nck v λa1=>
ldc (.ptr) w1 a1 λ(v1:OA)=>
cl Pg F.bf [.pointer v1,.int .u64 9223372036854775808,.int .u64 2] w1 [.one (.int .u64)] λ(r:Int) w2=>
nck e0 λa2=>
ldc (.ptr) w2.drew a2 λ(v2:OA)=>
nck v2 λa3=>
ldc (.ptr) w2.drew a3 λ(v3:OA)=>
cl Pg F.fC [.pointer v3,.int .u64 y2] w2.drew [.one (.int .u64)] λ(r1:Int) w3=>
hld w3 [(a2,.pointer v2)] <|
nck e0 λa4=>
ldc (.ptr) w3.drew a4 λ(v4:OA)=>
nck v4 λa5=>
ldc (.ptr) w3.drew a5 λ(v5:OA)=>
nck e0 λa6=>
ldc (.ptr) w3.drew a6 λ(v6:OA)=>
nck v6 λa7=>
ldc (.ptr) w3.drew a7 λ(v7:OA)=>
cl Pg F.bf [.pointer v7,.int .u64 r1,.int .u64 r] w3.drew [.one (.int .u64)] λ(r2:Int) w4=>
hld w4 [(a6,.pointer v6),(a5,.pointer v5),(a4,.pointer v4)] <|
cl Pg F.dw [.pointer v5,.int .u64 r2,.int .u64 y1] w4 [.one (.int .u64)] λ(r3:Int) w5=>
hld w5 [(a6,.pointer v6),(a4,.pointer v4)] <|
nck e0 λa8=>
ldc (.ptr) w5.drew a8 λ(v8:OA)=>
nck v8 λa9=>
ldc (.ptr) w5.drew a9 λ(v9:OA)=>
nck e0 λa10=>
ldc (.ptr) w5.drew a10 λ(v10:OA)=>
nck v10 λa11=>
ldc (.ptr) w5.drew a11 λ(v11:OA)=>
cl Pg F.bf [.pointer v11,.int .u64 r3,.int .u64 r] w5.drew [.one (.int .u64)] λ(r4:Int) w6=>
hld w6 [(a10,.pointer v10),(a9,.pointer v9),(a8,.pointer v8)] <|
cl Pg F.dw [.pointer v9,.int .u64 r4,.int .u64 y0] w6 [.one (.int .u64)] λ(r5:Int) w7=>
hld w7 [(a10,.pointer v10),(a8,.pointer v8)] <|
R (.int .u64 r5) w7
theorem Ct.bN{y0:Int}{y1:Int}{y2:Int}:CG (Sh.bN e0 y0 y1 y2) F.bN [.pointer e0,.agg #[.int .u64 y0,.int .u64 y1,.int .u64 y2]] [.one (.int .u64)]:=cod 65 [(3,65)] [(65,3)] [] f213
def Sh.ig(a:Sl)(k:Int):PR:=λR w=>
bnd (wi (k*(a.n:Int))) λn=>
mks w n n T.an 8 [.int .u64 0] λs w1=>
Jn [] (λJ0=>
Lp [.int .i64] (λ(x:Int) w2 C0=>
cond (decide ((x:Int)<(a.n:Int))) (
ixa a x 1 λa1=>
ldc (.int .u64) w2 a1 λ(v:Int)=>
bnd (wi (k*x)) λn1=>
ixa s n1 1 λa2=>
stc w2 a2 (.int .u64 v) λw3=>
bnd (wi (x+1)) λn2=>
C0 n2 w3) (
J0 w2)) 0 w1) fun  w4=>
R (s.v) w4
theorem Ct.ig:CG (Sh.ig a k) F.ig [a.v,.int .i64 k] [.one .slice]:=cod 28 [] [] [(2,0,[]),(3,3,[(15,.one (.int .i64))])] f215
end
section
set_option maxRecDepth 100000
open Go.Proofs.Tryz
variable {r:Option Addr} {a b:Sl}
def Sh.jL(p:Int):PR:=λR w=>
cl Pg F.jk [.int .u64 p] w [.one .ptr,.one (.int .i64)] λ(p1:OA)(r:Int) w1=>
cond ((r:Int) != 0) (
R (.tuple #[.pointer none,.int .i64 r]) w1) (
nwb w1 [.pointer p1] T.yF λb w2=>
R (.tuple #[.pointer (some ⟨b,0,none⟩),.int .i64 0]) w2)
theorem Ct.jL{p:Int}:CG (Sh.jL p) F.jL [.int .u64 p] [.one .ptr,.one (.int .i64)]:=cod 17 [] [] [] f175
def Sh.aw(r:Option Addr)(a:Sl):PR:=λR w=>
mks w (a.n:Int) (a.n:Int) T.an 8 [.int .u64 0] λs w1=>
Jn [] (λJ0=>
Lp [.int .i64] (λ(x:Int) w2 C0=>
cond (decide ((x:Int)<(a.n:Int))) (
ixa a x 1 λa1=>
ldc (.int .u64) w2 a1 λ(v:Int)=>
nck r λa2=>
ldc (.ptr) w2 a2 λ(v1:OA)=>
cl Pg F.fC [.pointer v1,.int .u64 v] w2 [.one (.int .u64)] λ(r1:Int) w3=>
ixa s x 1 λa3=>
stc w3 a3 (.int .u64 r1) λw4=>
bnd (wi (x+1)) λn=>
C0 n w4) (
J0 w2)) 0 w1) fun  w5=>
cl Pg F.fG [s.v] w5 [.one .slice] λ(s1:Sl) w6=>
R (s1.v) w6
theorem Ct.aw:CG (Sh.aw r a) F.aw [.pointer r,a.v] [.one .slice]:=cod 30 [] [] [(2,0,[]),(3,3,[(13,.one (.int .i64))])] f176
def Sh.dk(r:Option Addr)(a:Sl)(b:Sl):PR:=λR w=>
cl Pg F.aw [.pointer r,a.v] w [.one .slice] λ(s:Sl) w1=>
cl Pg F.aw [.pointer r,b.v] w1 [.one .slice] λ(s1:Sl) w2=>
Jn [.bool] (λJ0=>
cond (((s.n:Int):Int) == 0) (
J0 true w2) (
J0 (((s1.n:Int):Int) == 0) w2)) λ(x:Bool) w3=>
cond x (
R (.slice none 0 0) w3) (
bnd (wi ((s.n:Int)+(s1.n:Int))) λn=>
bnd (wi (n-1)) λn1=>
mks w3 n1 n1 T.an 8 [.int .u64 0] λs2 w4=>
Jn [] (λJ1=>
Lp [.int .i64] (λ(x1:Int) w5 C0=>
cond (decide ((x1:Int)<(s.n:Int))) (
ixa s x1 1 λa1=>
ldc (.int .u64) w5 a1 λ(v:Int)=>
Jn [] (λJ2=>
Lp [.int .i64] (λ(x2:Int) w6 C1=>
cond (decide ((x2:Int)<(s1.n:Int))) (
ixa s1 x2 1 λa2=>
ldc (.int .u64) w6 a2 λ(v1:Int)=>
bnd (wi (x1+x2)) λn2=>
nck r λa3=>
ldc (.ptr) w6.drew a3 λ(v2:OA)=>
bnd (wi (x1+x2)) λn3=>
ixa s2 n3 1 λa4=>
ldc (.int .u64) w6.drew a4 λ(v3:Int)=>
nck r λa5=>
ldc (.ptr) w6.drew a5 λ(v4:OA)=>
cl Pg F.bf [.pointer v4,.int .u64 v,.int .u64 v1] w6.drew [.one (.int .u64)] λ(r1:Int) w7=>
hld w7 [(a4,.int .u64 v3),(a3,.pointer v2)] <|
cl Pg F.dw [.pointer v2,.int .u64 v3,.int .u64 r1] w7 [.one (.int .u64)] λ(r2:Int) w8=>
ixa s2 n2 1 λa6=>
stc w8 a6 (.int .u64 r2) λw9=>
bnd (wi (x2+1)) λn4=>
C1 n4 w9) (
J2 w6)) 0 w5) fun  w10=>
bnd (wi (x1+1)) λn5=>
C0 n5 w10) (
J1 w5)) 0 w4) fun  w11=>
cl Pg F.fG [s2.v] w11 [.one .slice] λ(s3:Sl) w12=>
R (s3.v) w12)
theorem Ct.dk:CG (Sh.dk r a b) F.dk [.pointer r,a.v,b.v] [.one .slice]:=cod 74 [] [] [(0,2,[(25,.one .bool)]),(2,0,[]),(3,6,[(35,.one (.int .i64))]),(2,2,[]),(3,9,[(42,.one (.int .i64))])] f177
def Sh.fG(a:Sl):PR:=λR w=>
Jn [.slice] (λJ0=>
Lp [.slice] (λ(a1:Sl) w1 C0=>
Jn [.bool] (λJ1=>
cond (decide (((a1.n:Int):Int)>0)) (
bnd (wi ((a1.n:Int)-1)) λn=>
ixa a1 n 1 λa2=>
ldc (.int .u64) w1 a2 λ(v:Int)=>
J1 ((v:Int) == 0) w1) (
J1 false w1)) λ(x:Bool) w2=>
cond x (
bnd (wi ((a1.n:Int)-1)) λn1=>
slc a1 0 n1 1 λs=>
C0 s w2) (
J0 a1 w2)) a w) λ(a3:Sl) w3=>
R (a3.v) w3
theorem Ct.fG:CG (Sh.fG a) F.fG [a.v] [.one .slice]:=cod 21 [] [] [(2,0,[(0,.one .slice)]),(3,1,[(0,.one .slice)]),(0,1,[(14,.one .bool)])] f206
def Sh.aR(r:Option Addr)(l:Sl):PR:=λR w=>
Jn [.int .i64] (λJ0=>
Lp [.int .i64,.int .i64] (λ(n:Int)(x:Int) w1 C0=>
cond (decide ((x:Int)<(l.n:Int))) (
ixa l x 1 λa=>
ldc (.slice) w1 a λ(v:Sl)=>
bnd (if ((v.n:Int):Int)>n then (v.n:Int) else n) λn1=>
bnd (wi (x+1)) λn2=>
C0 n1 n2 w1) (
J0 n w1)) 0 0 w) λ(n3:Int) w2=>
mks w2 n3 n3 T.an 8 [.int .u64 0] λs w3=>
Jn [] (λJ1=>
Lp [.int .i64] (λ(x1:Int) w4 C1=>
cond (decide ((x1:Int)<(l.n:Int))) (
ixa l x1 1 λa1=>
ldc (.slice) w4 a1 λ(v1:Sl)=>
Jn [] (λJ2=>
Lp [.int .i64] (λ(x2:Int) w5 C2=>
cond (decide ((x2:Int)<(v1.n:Int))) (
ixa v1 x2 1 λa2=>
ldc (.int .u64) w5 a2 λ(v2:Int)=>
nck r λa3=>
ldc (.ptr) w5.drew a3 λ(v3:OA)=>
ixa s x2 1 λa4=>
ldc (.int .u64) w5.drew a4 λ(v4:Int)=>
cl Pg F.dw [.pointer v3,.int .u64 v4,.int .u64 v2] w5.drew [.one (.int .u64)] λ(r1:Int) w6=>
ixa s x2 1 λa5=>
stc w6 a5 (.int .u64 r1) λw7=>
bnd (wi (x2+1)) λn4=>
C2 n4 w7) (
J2 w5)) 0 w4) fun  w8=>
bnd (wi (x1+1)) λn5=>
C1 n5 w8) (
J1 w4)) 0 w3) fun  w9=>
cl Pg F.fG [s.v] w9 [.one .slice] λ(s1:Sl) w10=>
R (s1.v) w10
theorem Ct.aR{l:Sl}:CG (Sh.aR r l) F.aR [.pointer r,l.v] [.one .slice]:=cod 56 [] [] [(2,0,[(5,.one (.int .i64))]),(3,3,[(5,.one (.int .i64)),(15,.one (.int .i64))]),(2,2,[]),(3,9,[(28,.one (.int .i64))]),(2,4,[]),(3,12,[(34,.one (.int .i64))])] f209
def Sh.es(r:Option Addr)(a:Sl)(b:Sl):PR:=λR w=>
bnd (if ((b.n:Int):Int)>(a.n:Int) then (b.n:Int) else (a.n:Int)) λn=>
mks w n n T.an 8 [.int .u64 0] λs w1=>
Jn [] (λJ0=>
Lp [.int .i64] (λ(x:Int) w2 C0=>
cond (decide ((x:Int)<(s.n:Int))) (
nck r λa1=>
ldc (.ptr) w2.drew a1 λ(v:OA)=>
cl Pg F.jV [a.v,.int .i64 x] w2.drew [.one (.int .u64)] λ(r1:Int) w3=>
hld w3 [(a1,.pointer v)] <|
cl Pg F.jV [b.v,.int .i64 x] w3 [.one (.int .u64)] λ(r2:Int) w4=>
hld w4 [(a1,.pointer v)] <|
cl Pg F.fB [.pointer v,.int .u64 r1,.int .u64 r2] w4 [.one (.int .u64)] λ(r3:Int) w5=>
ixa s x 1 λa2=>
stc w5 a2 (.int .u64 r3) λw6=>
bnd (wi (x+1)) λn1=>
C0 n1 w6) (
J0 w2)) 0 w1) fun  w7=>
cl Pg F.fG [s.v] w7 [.one .slice] λ(s1:Sl) w8=>
R (s1.v) w8
theorem Ct.es:CG (Sh.es r a b) F.es [.pointer r,a.v,b.v] [.one .slice]:=cod 37 [] [] [(2,0,[]),(3,3,[(17,.one (.int .i64))])] f211
def Sh.jV(a:Sl)(i:Int):PR:=λR w=>
cond (decide ((i:Int)<(a.n:Int))) (
ixa a i 1 λa1=>
ldc (.int .u64) w a1 λ(v:Int)=>
R (.int .u64 v) w) (
R (.int .u64 0) w)
theorem Ct.jV{i:Int}:CG (Sh.jV a i) F.jV [a.v,.int .i64 i] [.one (.int .u64)]:=cod 13 [] [] [] f235
end
end Go.Proofs.YtpbimnlggalnfaaGreatDoor.Zg
