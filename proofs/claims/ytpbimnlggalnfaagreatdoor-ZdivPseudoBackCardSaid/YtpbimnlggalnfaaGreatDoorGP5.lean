/- A part of the proofs of this seat's laws. -/
import Derived.Test.YtpbimnlggalnfaaGreatDoorGC
set_option linter.unusedVariables false
set_option linter.unusedSimpArgs false
set_option linter.unnecessarySimpa false
namespace Go.Proofs.YtpbimnlggalnfaaGreatDoor.Zg
open Go.RowKit
section
set_option maxRecDepth 100000
open Go.Proofs.Tryz
variable {t:HL I11} {a b:Sl} {w:TW} {X:Nat→Prop} {K:KT [.one .bool]}
def Sh.bk(t:HL I11)(a:Sl)(b:Sl)(R:Value→TW→Prop)(w:TW):Prop:=
nwv w λw1=>
cl Pg F.br [a.v,.int .i64 9,.int .i64 2] w1 [.one .slice,.one .slice] λ(s:Sl)(s1:Sl) w2=>
cl Pg F.br [b.v,.int .i64 6,.int .i64 2] w2 [.one .slice,.one .slice] λ(s2:Sl)(s3:Sl) w3=>
cl Pg F.iG [.agg (aJ I11 t).toArray] w3 [.one .ptr] λ(p:Option Addr) w4=>
cond (Option.isNone p) (
R (.bool false) w4) (
cl Pg F.bT [.pointer p,s.v,s2.v] w4 [.one .slice,.one .slice,.one (.int .i64),.one (.int .i64)] λ(s4:Sl)(s5:Sl)(r:Int)(r1:Int) w5=>
cond (((s3.n:Int):Int) == 0) (
Jn [.bool] (λJ0=>
cond ((r1:Int) == 2) (
bnd (wi ((s4.n:Int)+(s5.n:Int))) λn=>
bnd (wi (n+r)) λn1=>
cond ((n1:Int) == 0) (
cl Pg F.aL [] w5 [.one .bool] λ(ok:Bool) w6=>
J0 ok w6) (
J0 false w5)) (
J0 false w5)) λ(x:Bool) w7=>
R (.bool x) w7) (
cl Pg F.bO [s1.v,s3.v] w5 [.one .slice,.one .slice,.one (.int .i64)] λ(s6:Sl)(s7:Sl)(r2:Int) w8=>
Jn [.bool] (λJ1=>
cond ((r1:Int) == 0) (
cond ((r:Int) == r2) (
cl Pg F.bB [s6.v,s4.v] w8 [.one .bool] λ(ok1:Bool) w9=>
cond ok1 (
cl Pg F.bB [s7.v,s5.v] w9 [.one .bool] λ(ok2:Bool) w10=>
cond ok2 (
cl Pg F.aL [] w10 [.one .bool] λ(ok3:Bool) w11=>
J1 ok3 w11) (
J1 false w10)) (
J1 false w9)) (
J1 false w8)) (
J1 false w8)) λ(x1:Bool) w12=>
R (.bool x1) w12))
theorem Ct.bk(h:Sh.bk t a b (Rt X [.one .bool] K w) w.here):Ct Pg F.bk [.agg (aJ I11 t).toArray,a.v,b.v] w X [.one .bool] K:=
 cod (Sh.bk t a b) 85 [(3,85)] [(85,11)] [(0,8,[(6,.one .bool)]),(0,10,[(6,.one .bool)])] f5 h
def Sh.aR(t:HL I11)(a:Sl)(b:Sl)(R:Value→TW→Prop)(w:TW):Prop:=
nwv w λw1=>
cl Pg F.br [a.v,.int .i64 14,.int .i64 3] w1 [.one .slice,.one .slice] λ(s:Sl)(s1:Sl) w2=>
cl Pg F.br [b.v,.int .i64 10,.int .i64 3] w2 [.one .slice,.one .slice] λ(s2:Sl)(s3:Sl) w3=>
cl Pg F.iG [.agg (aJ I11 t).toArray] w3 [.one .ptr] λ(p:Option Addr) w4=>
cond (Option.isNone p) (
R (.bool false) w4) (
cond (((s3.n:Int):Int) == 0) (
cl Pg F.aL [] w4 [.one .bool] λ(ok:Bool) w5=>
R (.bool ok) w5) (
cl Pg F.bT [.pointer p,s.v,s2.v] w4 [.one .slice,.one .slice,.one (.int .i64),.one (.int .i64)] λ(s4:Sl)(s5:Sl)(r:Int)(r1:Int) w6=>
Jn [.bool] (λJ0=>
cond ((r1:Int) != 0) (
J0 true w6) (
bnd (wi ((s1.n:Int)-(s3.n:Int))) λn=>
bnd (wi (n+1)) λn1=>
bnd (if (0:Int)>n1 then 0 else n1) λn2=>
cond ((r:Int) != n2) (
J0 true w6) (
cond (decide (((s5.n:Int):Int)≥(s3.n:Int))) (
J0 (decide (((s5.n:Int):Int)>0)) w6) (
J0 false w6)))) λ(x:Bool) w7=>
cond x (
R (.bool false) w7) (
bnd (wi ((s3.n:Int)-1)) λn3=>
ixa s3 n3 2 λa1=>
ldc (.slice) w7 (a1.add 0) λ(v:Sl)=>
ldc (.bool) w7 (a1.add 1) λ(v1:Bool)=>
cl Pg F.cT [.agg #[v.v,.bool v1],.int .i64 r] w7 [.agg [.slice,.bool]] λ(r2:Sl)(r3:Bool) w8=>
cl Pg F.aK [s1.v,.agg #[r2.v,.bool r3]] w8 [.one .slice] λ(s6:Sl) w9=>
cl Pg F.bC [s4.v] w9 [.one .slice] λ(s7:Sl) w10=>
cl Pg F.cR [s7.v,s3.v] w10 [.one .slice] λ(s8:Sl) w11=>
cl Pg F.bC [s5.v] w11 [.one .slice] λ(s9:Sl) w12=>
cl Pg F.bq [s8.v,s9.v] w12 [.one .slice] λ(s10:Sl) w13=>
Jn [.bool] (λJ1=>
cl Pg F.cx [s6.v,s10.v] w13 [.one .slice] λ(s11:Sl) w14=>
cond (((s11.n:Int):Int) == 0) (
cl Pg F.aL [] w14 [.one .bool] λ(ok1:Bool) w15=>
J1 ok1 w15) (
J1 false w14)) λ(x1:Bool) w16=>
R (.bool x1) w16)))
theorem Ct.aR(h:Sh.aR t a b (Rt X [.one .bool] K w) w.here):Ct Pg F.aR [.agg (aJ I11 t).toArray,a.v,b.v] w X [.one .bool] K:=
 cod (Sh.aR t a b) 93 [(3,93)] [(93,11)] [(0,9,[(67,.one .bool)]),(0,13,[(6,.one .bool)])] f6 h
def Sh.br(a:Sl)(n:Int)(k:Int)(R:Value→TW→Prop)(w:TW):Prop:=
cl Pg F.bP [a.v,.int .i64 n,.int .i64 k] w [.one .slice] λ(s:Sl) w1=>
cl Pg F.bC [s.v] w1 [.one .slice] λ(s1:Sl) w2=>
R (.tuple #[s.v,s1.v]) w2
theorem Ct.br{n:Int}{k:Int}{K:KT [.one .slice,.one .slice]}(h:Sh.br a n k (Rt X [.one .slice,.one .slice] K w) w.here):Ct Pg F.br [a.v,.int .i64 n,.int .i64 k] w X [.one .slice,.one .slice] K:=
 cod (Sh.br a n k) 15 [] [] [] f10 h
def Sh.aL(R:Value→TW→Prop)(w:TW):Prop:=
cl Pg F.iG [.agg #[.int .i64 0,.int .i64 0,.int .i64 0,.int .i64 0,.int .i64 0,.int .i64 0,.int .i64 0,.int .i64 0,.int .i64 0,.int .i64 0,.int .i64 0]] w [.one .ptr] λ(p:Option Addr) w1=>
cond (Option.isNone p) (
R (.bool false) w1) (
cl Pg F.fJ [.int .i64 4] w1 [.agg [.slice,.bool]] λ(r:Sl)(r1:Bool) w2=>
cl Pg F.fJ [.int .i64 (-2)] w2 [.agg [.slice,.bool]] λ(r2:Sl)(r3:Bool) w3=>
nwb w3 [r.v,.bool r1,r2.v,.bool r3] T.af λb w4=>
cl Pg F.bD [.pointer p,.slice (some ⟨b,0,none⟩) 2 2] w4 [.agg [.slice,.bool],.one .slice] λ(r4:Sl)(r5:Bool)(s:Sl) w5=>
nwv w5 λw6=>
nwv w6 λw7=>
cl Pg F.fJ [.int .i64 0] w7 [.agg [.slice,.bool]] λ(r6:Sl)(r7:Bool) w8=>
cl Pg F.fJ [.int .i64 2] w8 [.agg [.slice,.bool]] λ(r8:Sl)(r9:Bool) w9=>
nwb w9 [r6.v,.bool r7,r8.v,.bool r9] T.af λb1 w10=>
cl Pg F.fJ [.int .i64 0] w10 [.agg [.slice,.bool]] λ(r10:Sl)(r11:Bool) w11=>
cl Pg F.fJ [.int .i64 1] w11 [.agg [.slice,.bool]] λ(r12:Sl)(r13:Bool) w12=>
nwb w12 [r10.v,.bool r11,r12.v,.bool r13] T.af λb2 w13=>
cl Pg F.bg [.pointer p,.slice (some ⟨b1,0,none⟩) 2 2,.slice (some ⟨b2,0,none⟩) 2 2] w13 [.one .slice,.one (.int .i64)] λ(_:Sl)(r14:Int) w14=>
Jn [.bool] (λJ0=>
cl Pg F.fJ [.int .i64 (-2)] w14.drew [.agg [.slice,.bool]] λ(r15:Sl)(r16:Bool) w15=>
cl Pg F.dD [.agg #[r4.v,.bool r5],.agg #[r15.v,.bool r16]] w15 [.one .bool] λ(ok:Bool) w16=>
cond ok (
cond (((s.n:Int):Int) == 2) (
J0 ((r14:Int) == 7) w16) (
J0 false w16)) (
J0 false w16)) λ(x:Bool) w17=>
R (.bool x) w17)
theorem Ct.aL(h:Sh.aL (Rt X [.one .bool] K w) w.here):Ct Pg F.aL [] w X [.one .bool] K:=
 cod Sh.aL 41 [(2,41)] [(41,2)] [(0,6,[(0,.one .bool)])] f25 h
end
section
set_option maxRecDepth 100000
open Go.Proofs.Tryz
variable {a b:Sl} {w:TW} {X:Nat→Prop} {K:KT [.one .slice]}
def Sh.cI(a:Sl)(b:Sl)(R:Value→TW→Prop)(w:TW):Prop:=
cl Pg F.cN [a.v] w [.one .slice] λ(s:Sl) w1=>
cond (((s.n:Int):Int) != (b.n:Int)) (
R (.bool false) w1) (
Jn [] (λJ0=>
Lp [.int .i64] (λ(i:Int) w2 C0=>
cond (decide ((i:Int)<(s.n:Int))) (
ixa s i 1 λa1=>
ldc (.int .u64) w2.drew a1 λ(v:Int)=>
ixa b i 1 λa2=>
ldc (.int .u64) w2.drew a2 λ(v1:Int)=>
cond ((v:Int) != v1) (
R (.bool false) w2.drew) (
bnd (wi (i+1)) λn=>
C0 n w2.drew)) (
J0 w2)) 0 w1) fun  w3=>
R (.bool true) w3)
theorem Ct.cI{K:KT [.one .bool]}(h:Sh.cI a b (Rt X [.one .bool] K w) w.here):Ct Pg F.cI [a.v,b.v] w X [.one .bool] K:=
 cod (Sh.cI a b) 29 [] [] [(2,0,[]),(3,5,[(6,.one (.int .i64))])] f20 h
def Sh.bS(a:Sl)(R:Value→TW→Prop)(w:TW):Prop:=
bnd (wi (2*(a.n:Int))) λn=>
mks w 0 n T.ao 8 [.int .u64 0] λs w1=>
Jn [.slice] (λJ0=>
Lp [.slice,.int .i64] (λ(out:Sl)(i:Int) w2 C0=>
cond (decide ((i:Int)<(a.n:Int))) (
ixa a i 1 λa1=>
ldc (.int .u64) w2.drew a1 λ(v:Int)=>
ep v 4294967296 λn1=>
ixa a i 1 λa2=>
ldc (.int .u64) w2.drew a2 λ(v1:Int)=>
fw .u64 v1 4294967296 λn2=>
nwb w2.drew [.int .u64 n1,.int .u64 n2] T.ao λb w3=>
hld w3 [(a2,.int .u64 v1),(a1,.int .u64 v)] <|
apd w3 T.ao 1 8 out ⟨(some ⟨b,0,none⟩),2,2⟩ λs1 w4=>
hld w4 [(a2,.int .u64 v1),(a1,.int .u64 v)] <|
bnd (wi (i+1)) λn3=>
C0 s1 n3 w4) (
J0 out w2)) s 0 w1) λ(out1:Sl) w5=>
cl Pg F.aQ [out1.v] w5 [.one .slice] λ(s2:Sl) w6=>
R (s2.v) w6
theorem Ct.bS(h:Sh.bS a (Rt X [.one .slice] K w) w.here):Ct Pg F.bS [a.v] w X [.one .slice] K:=
 cod (Sh.bS a) 30 [] [] [(2,0,[(3,.one .slice)]),(3,3,[(3,.one .slice),(4,.one (.int .i64))])] f45 h
def Sh.bR(a:Sl)(R:Value→TW→Prop)(w:TW):Prop:=
R (.bool (((a.n:Int):Int) == 0)) w
theorem Ct.bR{K:KT [.one .bool]}(h:Sh.bR a (Rt X [.one .bool] K w) w.here):Ct Pg F.bR [a.v] w X [.one .bool] K:=
 cod (Sh.bR a) 6 [] [] [] f48 h
def Sh.cW(a:Sl)(b:Sl)(R:Value→TW→Prop)(w:TW):Prop:=
cond (((a.n:Int):Int) != (b.n:Int)) (
cond (decide (((a.n:Int):Int)<(b.n:Int))) (
R (.int .i64 (-1)) w) (
R (.int .i64 1) w)) (
bnd (wi ((a.n:Int)-1)) λn=>
Jn [] (λJ0=>
Lp [.int .i64] (λ(i:Int) w1 C0=>
cond (decide ((i:Int)≥0)) (
ixa a i 1 λa1=>
ldc (.int .u64) w1.drew a1 λ(v:Int)=>
ixa b i 1 λa2=>
ldc (.int .u64) w1.drew a2 λ(v1:Int)=>
cond (decide ((v:Int)<v1)) (
R (.int .i64 (-1)) w1.drew) (
ixa a i 1 λa3=>
ldc (.int .u64) w1.drew.drew a3 λ(v2:Int)=>
ixa b i 1 λa4=>
ldc (.int .u64) w1.drew.drew a4 λ(v3:Int)=>
cond (decide ((v2:Int)>v3)) (
R (.int .i64 1) w1.drew.drew) (
bnd (wi (i-1)) λn1=>
C0 n1 w1.drew.drew))) (
J0 w1)) n w) fun  w2=>
R (.int .i64 0) w2)
theorem Ct.cW{K:KT [.one (.int .i64)]}(h:Sh.cW a b (Rt X [.one (.int .i64)] K w) w.here):Ct Pg F.cW [a.v,b.v] w X [.one (.int .i64)] K:=
 cod (Sh.cW a b) 41 [] [] [(2,0,[]),(3,6,[(5,.one (.int .i64))])] f51 h
def Sh.cy(a:Sl)(b:Sl)(R:Value→TW→Prop)(w:TW):Prop:=
mks w 0 (a.n:Int) T.ao 8 [.int .u64 0] λs w1=>
Jn [.slice] (λJ0=>
Lp [.slice,.int .u64,.int .i64] (λ(out:Sl)(c:Int)(i:Int) w2 C0=>
cond (decide ((i:Int)<(a.n:Int))) (
Jn [.int .u64] (λJ1=>
cond (decide ((i:Int)<(b.n:Int))) (
ixa b i 1 λa1=>
ldc (.int .u64) w2 a1 λ(v:Int)=>
bnd (wu (c+v)) λn=>
J1 n w2) (
J1 c w2)) λ(s1:Int) w3=>
ixa a i 1 λa2=>
ldc (.int .u64) w3 a2 λ(v1:Int)=>
Jn [.slice,.int .u64] (λJ2=>
cond (decide ((v1:Int)≥s1)) (
ixa a i 1 λa3=>
ldc (.int .u64) w3 a3 λ(v2:Int)=>
bnd (wu (v2-s1)) λn1=>
nwb w3 [.int .u64 n1] T.ao λb1 w4=>
apd w4 T.ao 1 8 out ⟨(some ⟨b1,0,none⟩),1,1⟩ λs2 w5=>
J2 s2 0 w5) (
ixa a i 1 λa4=>
ldc (.int .u64) w3 a4 λ(v3:Int)=>
bnd (wu (v3+4294967296)) λn2=>
bnd (wu (n2-s1)) λn3=>
nwb w3 [.int .u64 n3] T.ao λb2 w6=>
apd w6 T.ao 1 8 out ⟨(some ⟨b2,0,none⟩),1,1⟩ λs3 w7=>
J2 s3 1 w7)) λ(out1:Sl)(c1:Int) w8=>
bnd (wi (i+1)) λn4=>
C0 out1 c1 n4 w8) (
J0 out w2)) s 0 0 w1) λ(out2:Sl) w9=>
cl Pg F.aQ [out2.v] w9 [.one .slice] λ(s4:Sl) w10=>
R (s4.v) w10
theorem Ct.cy(h:Sh.cy a b (Rt X [.one .slice] K w) w.here):Ct Pg F.cy [a.v,b.v] w X [.one .slice] K:=
 cod (Sh.cy a b) 56 [] [] [(2,0,[(5,.one .slice)]),(3,4,[(5,.one .slice),(6,.one (.int .u64)),(7,.one (.int .i64))]),(1,8,[(8,.one (.int .u64))]),(1,10,[(5,.one .slice),(6,.one (.int .u64))])] f52 h
def Sh.cN(a:Sl)(R:Value→TW→Prop)(w:TW):Prop:=
Jn [.slice] (λJ0=>
Lp [.slice,.int .i64] (λ(out:Sl)(i:Int) w1 C0=>
cond (decide ((i:Int)<(a.n:Int))) (
ixa a i 1 λa1=>
ldc (.int .u64) w1 a1 λ(v:Int)=>
bnd (wi (i+1)) λn=>
Jn [.int .u64] (λJ1=>
cond (decide ((n:Int)<(a.n:Int))) (
bnd (wi (i+1)) λn1=>
ixa a n1 1 λa2=>
ldc (.int .u64) w1 a2 λ(v1:Int)=>
bnd (wu (v1*4294967296)) λn2=>
bnd (wu (v+n2)) λn3=>
J1 n3 w1) (
J1 v w1)) λ(y:Int) w2=>
nwb w2 [.int .u64 y] T.ao λb w3=>
apd w3 T.ao 1 8 out ⟨(some ⟨b,0,none⟩),1,1⟩ λs w4=>
bnd (wi (i+2)) λn4=>
C0 s n4 w4) (
J0 out w1)) Sl.nil 0 w) λ(out1:Sl) w5=>
Jn [.slice] (λJ2=>
Lp [.slice] (λ(out2:Sl) w6 C1=>
Jn [.bool] (λJ3=>
cond (decide (((out2.n:Int):Int)>0)) (
bnd (wi ((out2.n:Int)-1)) λn5=>
ixa out2 n5 1 λa3=>
ldc (.int .u64) w6 a3 λ(v2:Int)=>
J3 ((v2:Int) == 0) w6) (
J3 false w6)) λ(x:Bool) w7=>
cond x (
bnd (wi ((out2.n:Int)-1)) λn6=>
slc out2 0 n6 1 λs1=>
C1 s1 w7) (
J2 out2 w7)) out1 w5) λ(out3:Sl) w8=>
R (out3.v) w8
theorem Ct.cN(h:Sh.cN a (Rt X [.one .slice] K w) w.here):Ct Pg F.cN [a.v] w X [.one .slice] K:=
 cod (Sh.cN a) 51 [] [] [(2,0,[(3,.one .slice)]),(3,3,[(3,.one .slice),(4,.one (.int .i64))]),(1,7,[(5,.one (.int .u64))]),(2,2,[(3,.one .slice)]),(3,9,[(3,.one .slice)]),(0,9,[(44,.one .bool)])] f60 h
def Sh.cV(a:Sl)(b:Sl)(R:Value→TW→Prop)(w:TW):Prop:=
bnd (wi ((a.n:Int)+(b.n:Int))) λn=>
mks w n n T.ao 8 [.int .u64 0] λs w1=>
Jn [] (λJ0=>
Lp [.int .i64] (λ(i:Int) w2 C0=>
cond (decide ((i:Int)<(a.n:Int))) (
Jn [.int .u64] (λJ1=>
Lp [.int .u64,.int .i64] (λ(c:Int)(j:Int) w3 C1=>
cond (decide ((j:Int)<(b.n:Int))) (
bnd (wi (i+j)) λn1=>
ixa s n1 1 λa1=>
ldc (.int .u64) w3.drew a1 λ(v:Int)=>
ixa a i 1 λa2=>
ldc (.int .u64) w3.drew a2 λ(v1:Int)=>
ixa b j 1 λa3=>
ldc (.int .u64) w3.drew a3 λ(v2:Int)=>
bnd (wu (v1*v2)) λn2=>
bnd (wu (v+n2)) λn3=>
bnd (wu (n3+c)) λn4=>
bnd (wi (i+j)) λn5=>
ep n4 4294967296 λn6=>
ixa s n5 1 λa4=>
stc w3.drew a4 (.int .u64 n6) λw4=>
fw .u64 n4 4294967296 λn7=>
bnd (wi (j+1)) λn8=>
C1 n7 n8 w4) (
J1 c w3)) 0 0 w2) λ(c1:Int) w5=>
bnd (wi (i+(b.n:Int))) λn9=>
ixa s n9 1 λa5=>
stc w5 a5 (.int .u64 c1) λw6=>
bnd (wi (i+1)) λn10=>
C0 n10 w6) (
J0 w2)) 0 w1) fun  w7=>
cl Pg F.aQ [s.v] w7 [.one .slice] λ(s1:Sl) w8=>
R (s1.v) w8
theorem Ct.cV(h:Sh.cV a b (Rt X [.one .slice] K w) w.here):Ct Pg F.cV [a.v,b.v] w X [.one .slice] K:=
 cod (Sh.cV a b) 64 [] [] [(2,0,[]),(3,3,[(6,.one (.int .i64))]),(2,2,[(7,.one (.int .u64))]),(3,7,[(7,.one (.int .u64)),(8,.one (.int .i64))])] f84 h
def Sh.aQ(a:Sl)(R:Value→TW→Prop)(w:TW):Prop:=
Jn [.int .i64] (λJ0=>
Lp [.int .i64] (λ(k:Int) w1 C0=>
Jn [.bool] (λJ1=>
cond (decide ((k:Int)>0)) (
bnd (wi (k-1)) λn=>
ixa a n 1 λa1=>
ldc (.int .u64) w1 a1 λ(v:Int)=>
J1 ((v:Int) == 0) w1) (
J1 false w1)) λ(x:Bool) w2=>
cond x (
bnd (wi (k-1)) λn1=>
C0 n1 w2) (
J0 k w2)) (a.n:Int) w) λ(k1:Int) w3=>
slc a 0 k1 1 λs=>
R (s.v) w3
theorem Ct.aQ(h:Sh.aQ a (Rt X [.one .slice] K w) w.here):Ct Pg F.aQ [a.v] w X [.one .slice] K:=
 cod (Sh.aQ a) 21 [] [] [(2,0,[(3,.one (.int .i64))]),(3,2,[(3,.one (.int .i64))]),(0,2,[(15,.one .bool)])] f85 h
def Sh.cX(a:Sl)(b:Sl)(R:Value→TW→Prop)(w:TW):Prop:=
bnd (if ((b.n:Int):Int)>(a.n:Int) then (b.n:Int) else (a.n:Int)) λn=>
bnd (wi (n+1)) λn1=>
mks w 0 n1 T.ao 8 [.int .u64 0] λs w1=>
Jn [.slice] (λJ0=>
Lp [.slice,.int .u64,.int .i64] (λ(out:Sl)(c:Int)(i:Int) w2 C0=>
Jn [.bool] (λJ1=>
cond (decide ((i:Int)<(a.n:Int))) (
J1 true w2) (
cond (decide ((i:Int)<(b.n:Int))) (
J1 true w2) (
J1 (decide ((c:Int)>0)) w2))) λ(x:Bool) w3=>
cond x (
Jn [.int .u64] (λJ2=>
cond (decide ((i:Int)<(a.n:Int))) (
ixa a i 1 λa1=>
ldc (.int .u64) w3 a1 λ(v:Int)=>
bnd (wu (c+v)) λn2=>
J2 n2 w3) (
J2 c w3)) λ(c1:Int) w4=>
Jn [.int .u64] (λJ3=>
cond (decide ((i:Int)<(b.n:Int))) (
ixa b i 1 λa2=>
ldc (.int .u64) w4 a2 λ(v1:Int)=>
bnd (wu (c1+v1)) λn3=>
J3 n3 w4) (
J3 c1 w4)) λ(c2:Int) w5=>
ep c2 4294967296 λn4=>
nwb w5 [.int .u64 n4] T.ao λb1 w6=>
apd w6 T.ao 1 8 out ⟨(some ⟨b1,0,none⟩),1,1⟩ λs1 w7=>
fw .u64 c2 4294967296 λn5=>
bnd (wi (i+1)) λn6=>
C0 s1 n5 n6 w7) (
J0 out w3)) s 0 0 w1) λ(out1:Sl) w8=>
cl Pg F.aQ [out1.v] w8 [.one .slice] λ(s2:Sl) w9=>
R (s2.v) w9
theorem Ct.cX(h:Sh.cX a b (Rt X [.one .slice] K w) w.here):Ct Pg F.cX [a.v,b.v] w X [.one .slice] K:=
 cod (Sh.cX a b) 60 [] [] [(2,0,[(5,.one .slice)]),(3,4,[(5,.one .slice),(6,.one (.int .u64)),(7,.one (.int .i64))]),(0,4,[(28,.one .bool)]),(1,7,[(6,.one (.int .u64))]),(1,9,[(6,.one (.int .u64))])] f92 h
def Sh.bE(y:Int)(R:Value→TW→Prop)(w:TW):Prop:=
nwb w [.int .u64 y] T.ao λb w1=>
cl Pg F.bS [.slice (some ⟨b,0,none⟩) 1 1] w1 [.one .slice] λ(s:Sl) w2=>
R (s.v) w2
theorem Ct.bE{y:Int}(h:Sh.bE y (Rt X [.one .slice] K w) w.here):Ct Pg F.bE [.int .u64 y] w X [.one .slice] K:=
 cod (Sh.bE y) 6 [] [] [] f105 h
end
section
set_option maxRecDepth 100000
open Go.Proofs.Tryz
variable {a0 b0:Sl} {a1 b1:Bool} {w:TW} {X:Nat→Prop} {K:KT [.agg [.slice,.bool]]} {n:Int}
def Sh.cH(a0:Sl)(a1:Bool)(R:Value→TW→Prop)(w:TW):Prop:=
nwv w λw1=>
nwv w1 λw2=>
cl Pg F.bS [a0.v] w2.drew [.one .slice] λ(s:Sl) w3=>
cl Pg F.ar [s.v,.bool a1] w3 [.agg [.slice,.bool]] λ(r:Sl)(r1:Bool) w4=>
nwv w4 λw5=>
R (.agg #[r.v,.bool r1]) w5
theorem Ct.cH(h:Sh.cH a0 a1 (Rt X [.agg [.slice,.bool]] K w) w.here):Ct Pg F.cH [.agg #[a0.v,.bool a1]] w X [.agg [.slice,.bool]] K:=
 cod (Sh.cH a0 a1) 9 [(1,9),(2,11)] [(9,2),(11,2)] [] f12 h
def Sh.dC(a0:Sl)(a1:Bool)(R:Value→TW→Prop)(w:TW):Prop:=
nwv w λw1=>
nwv w1 λw2=>
cl Pg F.cN [a0.v] w2.drew [.one .slice] λ(s:Sl) w3=>
nwv w3 λw4=>
R (.agg #[s.v,.bool a1]) w4
theorem Ct.dC(h:Sh.dC a0 a1 (Rt X [.agg [.slice,.bool]] K w) w.here):Ct Pg F.dC [.agg #[a0.v,.bool a1]] w X [.agg [.slice,.bool]] K:=
 cod (Sh.dC a0 a1) 9 [(1,9),(2,11)] [(9,2),(11,2)] [] f23 h
def Sh.cT(a0:Sl)(a1:Bool)(n:Int)(R:Value→TW→Prop)(w:TW):Prop:=
nwv w λw1=>
nwv w1 λw2=>
cl Pg F.cd [.int .i64 1] w2 [.agg [.slice,.bool]] λ(r:Sl)(r1:Bool) w3=>
nwv w3 λw4=>
nwv w4 λw5=>
Jn [.slice,.bool,.slice,.bool] (λJ0=>
Lp [.int .i64,.slice,.bool,.slice,.bool,.slice,.bool] (λ(i:Int)(a2:Sl)(a3:Bool)(x:Sl)(x1:Bool)(out:Sl)(out1:Bool) w6 C0=>
cond (decide ((i:Int)<n)) (
cl Pg F.bH [.agg #[out.v,.bool out1],.agg #[a2.v,.bool a3]] w6 [.agg [.slice,.bool]] λ(r2:Sl)(r3:Bool) w7=>
nwv w7 λw8=>
bnd (wi (i+1)) λn1=>
C0 n1 a2 a3 x x1 r2 r3 w8) (
J0 x x1 out out1 w6)) 0 a0 a1 Sl.nil false r r1 w5) λ(_:Sl)(_:Bool)(out2:Sl)(out3:Bool) w9=>
nwv w9 λw10=>
R (.agg #[out2.v,.bool out3]) w10
theorem Ct.cT(h:Sh.cT a0 a1 n (Rt X [.agg [.slice,.bool]] K w) w.here):Ct Pg F.cT [.agg #[a0.v,.bool a1],.int .i64 n] w X [.agg [.slice,.bool]] K:=
 cod (Sh.cT a0 a1 n) 17 [(2,17),(4,19),(5,21)] [(17,2),(19,2),(21,2)] [(2,0,[(19,.one .slice),(20,.one .bool),(21,.one .slice),(22,.one .bool)]),(3,3,[(6,.one (.int .i64)),(17,.one .slice),(18,.one .bool),(19,.one .slice),(20,.one .bool),(21,.one .slice),(22,.one .bool)])] f33 h
def Sh.bH(a0:Sl)(a1:Bool)(b0:Sl)(b1:Bool)(R:Value→TW→Prop)(w:TW):Prop:=
nwv w λw1=>
nwv w1 λw2=>
nwv w2 λw3=>
cl Pg F.cV [a0.v,b0.v] w3.drew [.one .slice] λ(s:Sl) w4=>
cl Pg F.ar [s.v,.bool (!(a1 == b1))] w4 [.agg [.slice,.bool]] λ(r:Sl)(r1:Bool) w5=>
nwv w5 λw6=>
R (.agg #[r.v,.bool r1]) w6
theorem Ct.bH(h:Sh.bH a0 a1 b0 b1 (Rt X [.agg [.slice,.bool]] K w) w.here):Ct Pg F.bH [.agg #[a0.v,.bool a1],.agg #[b0.v,.bool b1]] w X [.agg [.slice,.bool]] K:=
 cod (Sh.bH a0 a1 b0 b1) 16 [(2,16),(3,18),(4,20)] [(16,2),(18,2),(20,2)] [] f42 h
def Sh.ar(n:Sl)(neg:Bool)(R:Value→TW→Prop)(w:TW):Prop:=
nwv w λw1=>
Jn [.slice,.bool] (λJ0=>
cond neg (
cl Pg F.bR [n.v] w1 [.one .bool] λ(ok:Bool) w2=>
nwv w2 λw3=>
J0 n (!ok) w3) (
nwv w1 λw4=>
J0 n false w4)) λ(x:Sl)(x1:Bool) w5=>
R (.agg #[x.v,.bool x1]) w5
theorem Ct.ar{n:Sl}{neg:Bool}(h:Sh.ar n neg (Rt X [.agg [.slice,.bool]] K w) w.here):Ct Pg F.ar [n.v,.bool neg] w X [.agg [.slice,.bool]] K:=
 cod (Sh.ar n neg) 13 [(4,13)] [(13,2)] [(0,1,[(13,.one .slice),(14,.one .bool)])] f44 h
def Sh.cU(a0:Sl)(a1:Bool)(R:Value→TW→Prop)(w:TW):Prop:=
nwv w λw1=>
nwv w1 λw2=>
cl Pg F.ar [a0.v,.bool (!a1)] w2 [.agg [.slice,.bool]] λ(r:Sl)(r1:Bool) w3=>
nwv w3 λw4=>
R (.agg #[r.v,.bool r1]) w4
theorem Ct.cU(h:Sh.cU a0 a1 (Rt X [.agg [.slice,.bool]] K w) w.here):Ct Pg F.cU [.agg #[a0.v,.bool a1]] w X [.agg [.slice,.bool]] K:=
 cod (Sh.cU a0 a1) 9 [(1,9),(2,11)] [(9,2),(11,2)] [] f58 h
def Sh.bI(a0:Sl)(a1:Bool)(b0:Sl)(b1:Bool)(R:Value→TW→Prop)(w:TW):Prop:=
nwv w λw1=>
nwv w1 λw2=>
nwv w2 λw3=>
cond (a1 == b1) (
cl Pg F.cX [a0.v,b0.v] w3.drew [.one .slice] λ(s:Sl) w4=>
cl Pg F.ar [s.v,.bool a1] w4 [.agg [.slice,.bool]] λ(r:Sl)(r1:Bool) w5=>
nwv w5 λw6=>
R (.agg #[r.v,.bool r1]) w6) (
cl Pg F.cW [a0.v,b0.v] w3 [.one (.int .i64)] λ(r2:Int) w7=>
cond (decide ((r2:Int)≥0)) (
cl Pg F.cy [a0.v,b0.v] w7.drew [.one .slice] λ(s1:Sl) w8=>
cl Pg F.ar [s1.v,.bool a1] w8 [.agg [.slice,.bool]] λ(r3:Sl)(r4:Bool) w9=>
nwv w9 λw10=>
R (.agg #[r3.v,.bool r4]) w10) (
cl Pg F.cy [b0.v,a0.v] w7.drew [.one .slice] λ(s2:Sl) w11=>
cl Pg F.ar [s2.v,.bool b1] w11 [.agg [.slice,.bool]] λ(r5:Sl)(r6:Bool) w12=>
nwv w12 λw13=>
R (.agg #[r5.v,.bool r6]) w13))
theorem Ct.bI(h:Sh.bI a0 a1 b0 b1 (Rt X [.agg [.slice,.bool]] K w) w.here):Ct Pg F.bI [.agg #[a0.v,.bool a1],.agg #[b0.v,.bool b1]] w X [.agg [.slice,.bool]] K:=
 cod (Sh.bI a0 a1 b0 b1) 40 [(2,40),(3,42),(4,44)] [(40,2),(42,2),(44,2)] [] f64 h
def Sh.cd(n:Int)(R:Value→TW→Prop)(w:TW):Prop:=
nwv w λw1=>
cond (decide ((n:Int)<0)) (
bnd (wi (0-n)) λn1=>
bnd (wu (n1)) λn2=>
cl Pg F.bE [.int .u64 n2] w1 [.one .slice] λ(s:Sl) w2=>
cl Pg F.ar [s.v,.bool true] w2 [.agg [.slice,.bool]] λ(r:Sl)(r1:Bool) w3=>
nwv w3 λw4=>
R (.agg #[r.v,.bool r1]) w4) (
bnd (wu (n)) λn3=>
cl Pg F.bE [.int .u64 n3] w1 [.one .slice] λ(s1:Sl) w5=>
cl Pg F.ar [s1.v,.bool false] w5 [.agg [.slice,.bool]] λ(r2:Sl)(r3:Bool) w6=>
nwv w6 λw7=>
R (.agg #[r2.v,.bool r3]) w7)
theorem Ct.cd(h:Sh.cd n (Rt X [.agg [.slice,.bool]] K w) w.here):Ct Pg F.cd [.int .i64 n] w X [.agg [.slice,.bool]] K:=
 cod (Sh.cd n) 14 [(2,14)] [(14,2)] [] f76 h
def Sh.cS(a0:Sl)(a1:Bool)(b0:Sl)(b1:Bool)(R:Value→TW→Prop)(w:TW):Prop:=
nwv w λw1=>
nwv w1 λw2=>
nwv w2 λw3=>
cl Pg F.cU [.agg #[b0.v,.bool b1]] w3.drew [.agg [.slice,.bool]] λ(r:Sl)(r1:Bool) w4=>
cl Pg F.bI [.agg #[a0.v,.bool a1],.agg #[r.v,.bool r1]] w4 [.agg [.slice,.bool]] λ(r2:Sl)(r3:Bool) w5=>
nwv w5 λw6=>
R (.agg #[r2.v,.bool r3]) w6
theorem Ct.cS(h:Sh.cS a0 a1 b0 b1 (Rt X [.agg [.slice,.bool]] K w) w.here):Ct Pg F.cS [.agg #[a0.v,.bool a1],.agg #[b0.v,.bool b1]] w X [.agg [.slice,.bool]] K:=
 cod (Sh.cS a0 a1 b0 b1) 9 [(2,9),(3,11),(4,13)] [(9,2),(11,2),(13,2)] [] f77 h
def Sh.cG(a0:Sl)(a1:Bool)(R:Value→TW→Prop)(w:TW):Prop:=
nwv w λw1=>
cl Pg F.bR [a0.v] w1 [.one .bool] λ(ok:Bool) w2=>
R (.bool ok) w2
theorem Ct.cG{K:KT [.one .bool]}(h:Sh.cG a0 a1 (Rt X [.one .bool] K w) w.here):Ct Pg F.cG [.agg #[a0.v,.bool a1]] w X [.one .bool] K:=
 cod (Sh.cG a0 a1) 6 [(1,6)] [(6,2)] [] f83 h
end
section
set_option maxRecDepth 100000
open Go.Proofs.Tryz
variable {a b:Sl} {w:TW} {X:Nat→Prop} {K:KT [.one .slice]}
def Sh.aK(a:Sl)(c0:Sl)(c1:Bool)(R:Value→TW→Prop)(w:TW):Prop:=
nwv w λw1=>
Jn [.slice] (λJ0=>
Lp [.slice,.int .i64,.slice,.bool] (λ(out:Sl)(i:Int)(c2:Sl)(c3:Bool) w2 C0=>
cond (decide ((i:Int)<(a.n:Int))) (
ixa a i 2 λa1=>
ldc (.slice) w2.drew (a1.add 0) λ(v:Sl)=>
ldc (.bool) w2.drew (a1.add 1) λ(v1:Bool)=>
cl Pg F.bH [.agg #[v.v,.bool v1],.agg #[c2.v,.bool c3]] w2.drew [.agg [.slice,.bool]] λ(r:Sl)(r1:Bool) w3=>
nwb w3 [r.v,.bool r1] T.am λb w4=>
apd w4 T.am 2 32 out ⟨(some ⟨b,0,none⟩),1,1⟩ λs w5=>
bnd (wi (i+1)) λn=>
C0 s n c2 c3 w5) (
J0 out w2)) Sl.nil 0 c0 c1 w1) λ(out1:Sl) w6=>
cl Pg F.aA [out1.v] w6 [.one .slice] λ(s1:Sl) w7=>
R (s1.v) w7
theorem Ct.aK{c0:Sl}{c1:Bool}(h:Sh.aK a c0 c1 (Rt X [.one .slice] K w) w.here):Ct Pg F.aK [a.v,.agg #[c0.v,.bool c1]] w X [.one .slice] K:=
 cod (Sh.aK a c0 c1) 24 [(3,24)] [(24,2)] [(2,0,[(5,.one .slice)]),(3,3,[(5,.one .slice),(6,.one (.int .i64)),(24,.one .slice),(25,.one .bool)])] f11 h
def Sh.dB(a:Sl)(R:Value→TW→Prop)(w:TW):Prop:=
Jn [.slice] (λJ0=>
Lp [.slice,.int .i64] (λ(out:Sl)(i:Int) w1 C0=>
cond (decide ((i:Int)<(a.n:Int))) (
ixa a i 2 λa1=>
ldc (.slice) w1 (a1.add 0) λ(v:Sl)=>
ldc (.bool) w1 (a1.add 1) λ(v1:Bool)=>
cl Pg F.dC [.agg #[v.v,.bool v1]] w1 [.agg [.slice,.bool]] λ(r:Sl)(r1:Bool) w2=>
nwb w2 [r.v,.bool r1] T.af λb w3=>
apd w3 T.af 2 32 out ⟨(some ⟨b,0,none⟩),1,1⟩ λs w4=>
bnd (wi (i+1)) λn=>
C0 s n w4) (
J0 out w1)) Sl.nil 0 w) λ(out1:Sl) w5=>
R (out1.v) w5
theorem Ct.dB(h:Sh.dB a (Rt X [.one .slice] K w) w.here):Ct Pg F.dB [a.v] w X [.one .slice] K:=
 cod (Sh.dB a) 20 [] [] [(2,0,[(3,.one .slice)]),(3,3,[(3,.one .slice),(4,.one (.int .i64))])] f14 h
def Sh.bB(a:Sl)(b:Sl)(R:Value→TW→Prop)(w:TW):Prop:=
cl Pg F.dB [a.v] w [.one .slice] λ(s:Sl) w1=>
cond (((s.n:Int):Int) != (b.n:Int)) (
R (.bool false) w1) (
Jn [] (λJ0=>
Lp [.int .i64] (λ(i:Int) w2 C0=>
cond (decide ((i:Int)<(s.n:Int))) (
Jn [.bool] (λJ1=>
ixa s i 2 λa1=>
ldc (.bool) w2.drew (a1.add 1) λ(v:Bool)=>
ixa b i 2 λa2=>
ldc (.bool) w2.drew (a2.add 1) λ(v1:Bool)=>
cond (!(v == v1)) (
J1 true w2.drew) (
ixa a i 2 λa3=>
ldc (.slice) w2.drew a3 λ(v2:Sl)=>
ixa b i 2 λa4=>
ldc (.slice) w2.drew a4 λ(v3:Sl)=>
cl Pg F.cI [v2.v,v3.v] w2.drew [.one .bool] λ(ok:Bool) w3=>
hld w3 [((a2.add 1),.bool v1),((a1.add 1),.bool v)] <|
J1 (!ok) w3)) λ(x:Bool) w4=>
cond x (
R (.bool false) w4) (
bnd (wi (i+1)) λn=>
C0 n w4)) (
J0 w2)) 0 w1) fun  w5=>
R (.bool true) w5)
theorem Ct.bB{K:KT [.one .bool]}(h:Sh.bB a b (Rt X [.one .bool] K w) w.here):Ct Pg F.bB [a.v,b.v] w X [.one .bool] K:=
 cod (Sh.bB a b) 45 [] [] [(2,0,[]),(3,5,[(6,.one (.int .i64))]),(0,7,[(44,.one .bool)])] f24 h
def Sh.bC(a:Sl)(R:Value→TW→Prop)(w:TW):Prop:=
Jn [.slice] (λJ0=>
Lp [.slice,.int .i64] (λ(out:Sl)(i:Int) w1 C0=>
cond (decide ((i:Int)<(a.n:Int))) (
ixa a i 2 λa1=>
ldc (.slice) w1 (a1.add 0) λ(v:Sl)=>
ldc (.bool) w1 (a1.add 1) λ(v1:Bool)=>
cl Pg F.cH [.agg #[v.v,.bool v1]] w1 [.agg [.slice,.bool]] λ(r:Sl)(r1:Bool) w2=>
nwb w2 [r.v,.bool r1] T.am λb w3=>
apd w3 T.am 2 32 out ⟨(some ⟨b,0,none⟩),1,1⟩ λs w4=>
bnd (wi (i+1)) λn=>
C0 s n w4) (
J0 out w1)) Sl.nil 0 w) λ(out1:Sl) w5=>
cl Pg F.aA [out1.v] w5 [.one .slice] λ(s1:Sl) w6=>
R (s1.v) w6
theorem Ct.bC(h:Sh.bC a (Rt X [.one .slice] K w) w.here):Ct Pg F.bC [a.v] w X [.one .slice] K:=
 cod (Sh.bC a) 21 [] [] [(2,0,[(3,.one .slice)]),(3,3,[(3,.one .slice),(4,.one (.int .i64))])] f27 h
def Sh.bO(a:Sl)(b:Sl)(R:Value→TW→Prop)(w:TW):Prop:=
bnd (wi ((a.n:Int)-(b.n:Int))) λn=>
bnd (wi (n+1)) λn1=>
bnd (if (0:Int)>n1 then 0 else n1) λn2=>
bnd (wi ((b.n:Int)-1)) λn3=>
ixa b n3 2 λa1=>
ldc (.slice) w (a1.add 0) λ(v:Sl)=>
ldc (.bool) w (a1.add 1) λ(v1:Bool)=>
nwv w λw1=>
nwv w1 λw2=>
Jn [.slice,.slice] (λJ0=>
Lp [.slice,.slice,.int .i64,.slice,.bool] (λ(q:Sl)(r:Sl)(i:Int)(c:Sl)(c1:Bool) w3 C0=>
cond (decide ((i:Int)<n2)) (
bnd (wi ((a.n:Int)-1)) λn4=>
bnd (wi (n4-i)) λn5=>
cl Pg F.bn [r.v,.int .i64 n5] w3 [.agg [.slice,.bool]] λ(r1:Sl)(r2:Bool) w4=>
nwv w4 λw5=>
nwv w5 λw6=>
bnd (wi (n5-(b.n:Int))) λn6=>
bnd (wi (n6+1)) λn7=>
cl Pg F.aK [r.v,.agg #[c.v,.bool c1]] w6.drew [.one .slice] λ(s:Sl) w7=>
cl Pg F.aK [b.v,.agg #[r1.v,.bool r2]] w7 [.one .slice] λ(s1:Sl) w8=>
cl Pg F.bi [s1.v,.int .i64 n7] w8 [.one .slice] λ(s2:Sl) w9=>
cl Pg F.cx [s.v,s2.v] w9 [.one .slice] λ(s3:Sl) w10=>
bnd (wi (n5-(b.n:Int))) λn8=>
bnd (wi (n8+1)) λn9=>
(cl Pg F.aK [q.v,.agg #[c.v,.bool c1]] w10.drew [.one .slice] λ(s4:Sl) w11=>
nwb w11 [r1.v,.bool r2] T.am λb1 w12=>
cl Pg F.aA [.slice (some ⟨b1,0,none⟩) 1 1] w12 [.one .slice] λ(s5:Sl) w13=>
cl Pg F.bi [s5.v,.int .i64 n9] w13 [.one .slice] λ(s6:Sl) w14=>
cl Pg F.bq [s4.v,s6.v] w14 [.one .slice] λ(s7:Sl) w15=>
bnd (wi (i+1)) λn10=>
C0 s7 s3 n10 c c1 w15)∧
(nwb w10.drew [r1.v,.bool r2] T.am λb2 w16=>
cl Pg F.aK [q.v,.agg #[c.v,.bool c1]] w16 [.one .slice] λ(s8:Sl) w17=>
cl Pg F.aA [.slice (some ⟨b2,0,none⟩) 1 1] w17 [.one .slice] λ(s9:Sl) w18=>
cl Pg F.bi [s9.v,.int .i64 n9] w18 [.one .slice] λ(s10:Sl) w19=>
cl Pg F.bq [s8.v,s10.v] w19 [.one .slice] λ(s11:Sl) w20=>
bnd (wi (i+1)) λn11=>
C0 s11 s3 n11 c c1 w20)) (
J0 q r w3)) Sl.nil a 0 v v1 w2) λ(q1:Sl)(r3:Sl) w21=>
R (.tuple #[q1.v,r3.v,.int .i64 n2]) w21
theorem Ct.bO{K:KT [.one .slice,.one .slice,.one (.int .i64)]}(h:Sh.bO a b (Rt X [.one .slice,.one .slice,.one (.int .i64)] K w) w.here):Ct Pg F.bO [a.v,b.v] w X [.one .slice,.one .slice,.one (.int .i64)] K:=
 cod (Sh.bO a b) 70 [(8,70),(13,72)] [(70,2),(72,2)] [(2,0,[(9,.one .slice),(10,.one .slice)]),(3,6,[(9,.one .slice),(10,.one .slice),(11,.one (.int .i64)),(70,.one .slice),(71,.one .bool)])] f32 h
def Sh.bq(a:Sl)(b:Sl)(R:Value→TW→Prop)(w:TW):Prop:=
Jn [.slice] (λJ0=>
Lp [.slice,.int .i64] (λ(out:Sl)(i:Int) w1 C0=>
bnd (if ((b.n:Int):Int)>(a.n:Int) then (b.n:Int) else (a.n:Int)) λn=>
cond (decide ((i:Int)<n)) (
cl Pg F.bn [a.v,.int .i64 i] w1 [.agg [.slice,.bool]] λ(r:Sl)(r1:Bool) w2=>
cl Pg F.bn [b.v,.int .i64 i] w2 [.agg [.slice,.bool]] λ(r2:Sl)(r3:Bool) w3=>
cl Pg F.bI [.agg #[r.v,.bool r1],.agg #[r2.v,.bool r3]] w3 [.agg [.slice,.bool]] λ(r4:Sl)(r5:Bool) w4=>
nwb w4 [r4.v,.bool r5] T.am λb1 w5=>
apd w5 T.am 2 32 out ⟨(some ⟨b1,0,none⟩),1,1⟩ λs w6=>
bnd (wi (i+1)) λn1=>
C0 s n1 w6) (
J0 out w1)) Sl.nil 0 w) λ(out1:Sl) w7=>
cl Pg F.aA [out1.v] w7 [.one .slice] λ(s1:Sl) w8=>
R (s1.v) w8
theorem Ct.bq(h:Sh.bq a b (Rt X [.one .slice] K w) w.here):Ct Pg F.bq [a.v,b.v] w X [.one .slice] K:=
 cod (Sh.bq a b) 28 [] [] [(2,0,[(5,.one .slice)]),(3,3,[(5,.one .slice),(6,.one (.int .i64))])] f34 h
def Sh.cR(a:Sl)(b:Sl)(R:Value→TW→Prop)(w:TW):Prop:=
Jn [.bool] (λJ0=>
cond (((a.n:Int):Int) == 0) (
J0 true w) (
J0 (((b.n:Int):Int) == 0) w)) λ(x:Bool) w1=>
cond x (
R (.slice none 0 0) w1) (
bnd (wi ((a.n:Int)+(b.n:Int))) λn=>
bnd (wi (n-1)) λn1=>
mks w1 n1 n1 T.am 32 [.slice none 0 0,.bool false] λs w2=>
Jn [] (λJ1=>
Lp [.int .i64] (λ(i:Int) w3 C0=>
cond (decide ((i:Int)<(a.n:Int))) (
Jn [] (λJ2=>
Lp [.int .i64] (λ(j:Int) w4 C1=>
cond (decide ((j:Int)<(b.n:Int))) (
bnd (wi (i+j)) λn2=>
bnd (wi (i+j)) λn3=>
ixa s n3 2 λa1=>
ldc (.slice) w4.drew (a1.add 0) λ(v:Sl)=>
ldc (.bool) w4.drew (a1.add 1) λ(v1:Bool)=>
ixa a i 2 λa2=>
ldc (.slice) w4.drew (a2.add 0) λ(v2:Sl)=>
ldc (.bool) w4.drew (a2.add 1) λ(v3:Bool)=>
ixa b j 2 λa3=>
ldc (.slice) w4.drew (a3.add 0) λ(v4:Sl)=>
ldc (.bool) w4.drew (a3.add 1) λ(v5:Bool)=>
cl Pg F.bH [.agg #[v2.v,.bool v3],.agg #[v4.v,.bool v5]] w4.drew [.agg [.slice,.bool]] λ(r:Sl)(r1:Bool) w5=>
hld w5 [(a1.add 0,v.v),(a1.add 1,.bool v1)] <|
cl Pg F.bI [.agg #[v.v,.bool v1],.agg #[r.v,.bool r1]] w5 [.agg [.slice,.bool]] λ(r2:Sl)(r3:Bool) w6=>
ixa s n2 2 λa4=>
stc w6 a4 r2.v λw7=>
stc w7 (a4.add 1) (.bool r3) λw8=>
bnd (wi (j+1)) λn4=>
C1 n4 w8) (
J2 w4)) 0 w3) fun  w9=>
bnd (wi (i+1)) λn5=>
C0 n5 w9) (
J1 w3)) 0 w2) fun  w10=>
cl Pg F.aA [s.v] w10 [.one .slice] λ(s1:Sl) w11=>
R (s1.v) w11)
theorem Ct.cR(h:Sh.cR a b (Rt X [.one .slice] K w) w.here):Ct Pg F.cR [a.v,b.v] w X [.one .slice] K:=
 cod (Sh.cR a b) 58 [] [] [(0,1,[(15,.one .bool)]),(2,0,[]),(3,5,[(6,.one (.int .i64))]),(2,2,[]),(3,8,[(7,.one (.int .i64))])] f35 h
def Sh.cx(a:Sl)(b:Sl)(R:Value→TW→Prop)(w:TW):Prop:=
Jn [.slice] (λJ0=>
Lp [.slice,.int .i64] (λ(out:Sl)(i:Int) w1 C0=>
bnd (if ((b.n:Int):Int)>(a.n:Int) then (b.n:Int) else (a.n:Int)) λn=>
cond (decide ((i:Int)<n)) (
cl Pg F.bn [a.v,.int .i64 i] w1 [.agg [.slice,.bool]] λ(r:Sl)(r1:Bool) w2=>
cl Pg F.bn [b.v,.int .i64 i] w2 [.agg [.slice,.bool]] λ(r2:Sl)(r3:Bool) w3=>
cl Pg F.cS [.agg #[r.v,.bool r1],.agg #[r2.v,.bool r3]] w3 [.agg [.slice,.bool]] λ(r4:Sl)(r5:Bool) w4=>
nwb w4 [r4.v,.bool r5] T.am λb1 w5=>
apd w5 T.am 2 32 out ⟨(some ⟨b1,0,none⟩),1,1⟩ λs w6=>
bnd (wi (i+1)) λn1=>
C0 s n1 w6) (
J0 out w1)) Sl.nil 0 w) λ(out1:Sl) w7=>
cl Pg F.aA [out1.v] w7 [.one .slice] λ(s1:Sl) w8=>
R (s1.v) w8
theorem Ct.cx(h:Sh.cx a b (Rt X [.one .slice] K w) w.here):Ct Pg F.cx [a.v,b.v] w X [.one .slice] K:=
 cod (Sh.cx a b) 28 [] [] [(2,0,[(5,.one .slice)]),(3,3,[(5,.one .slice),(6,.one (.int .i64))])] f36 h
def Sh.aA(a:Sl)(R:Value→TW→Prop)(w:TW):Prop:=
Jn [.int .i64] (λJ0=>
Lp [.int .i64] (λ(k:Int) w1 C0=>
Jn [.bool] (λJ1=>
cond (decide ((k:Int)>0)) (
bnd (wi (k-1)) λn=>
ixa a n 2 λa1=>
ldc (.slice) w1 (a1.add 0) λ(v:Sl)=>
ldc (.bool) w1 (a1.add 1) λ(v1:Bool)=>
cl Pg F.cG [.agg #[v.v,.bool v1]] w1 [.one .bool] λ(ok:Bool) w2=>
J1 ok w2) (
J1 false w1)) λ(x:Bool) w3=>
cond x (
bnd (wi (k-1)) λn1=>
C0 n1 w3) (
J0 k w3)) (a.n:Int) w) λ(k1:Int) w4=>
slc a 0 k1 2 λs=>
R (s.v) w4
theorem Ct.aA(h:Sh.aA a (Rt X [.one .slice] K w) w.here):Ct Pg F.aA [a.v] w X [.one .slice] K:=
 cod (Sh.aA a) 21 [] [] [(2,0,[(3,.one (.int .i64))]),(3,2,[(3,.one (.int .i64))]),(0,2,[(15,.one .bool)])] f43 h
def Sh.bn(a:Sl)(i:Int)(R:Value→TW→Prop)(w:TW):Prop:=
nwv w λw1=>
Jn [.bool,.slice,.bool] (λJ0=>
cond (decide ((i:Int)<0)) (
J0 true Sl.nil false w1) (
J0 (decide ((i:Int)≥(a.n:Int))) Sl.nil false w1)) λ(x:Bool)(_:Sl)(_:Bool) w2=>
cond x (
nwv w2 λw3=>
R (.agg #[.slice none 0 0,.bool false]) w3) (
ixa a i 2 λa1=>
ldc (.slice) w2 (a1.add 0) λ(v:Sl)=>
ldc (.bool) w2 (a1.add 1) λ(v1:Bool)=>
nwv w2 λw4=>
R (.agg #[v.v,.bool v1]) w4)
theorem Ct.bn{i:Int}{K:KT [.agg [.slice,.bool]]}(h:Sh.bn a i (Rt X [.agg [.slice,.bool]] K w) w.here):Ct Pg F.bn [a.v,.int .i64 i] w X [.agg [.slice,.bool]] K:=
 cod (Sh.bn a i) 18 [(4,18)] [(18,2)] [(0,1,[(12,.one .bool),(18,.one .slice),(19,.one .bool)])] f80 h
def Sh.bi(a:Sl)(k:Int)(R:Value→TW→Prop)(w:TW):Prop:=
cond (((a.n:Int):Int) == 0) (
R (.slice none 0 0) w) (
mks w k k T.am 32 [.slice none 0 0,.bool false] λs w1=>
apd w1 T.am 2 32 s a λs1 w2=>
R (s1.v) w2)
theorem Ct.bi{k:Int}(h:Sh.bi a k (Rt X [.one .slice] K w) w.here):Ct Pg F.bi [a.v,.int .i64 k] w X [.one .slice] K:=
 cod (Sh.bi a k) 12 [] [] [] f81 h
end
end Go.Proofs.YtpbimnlggalnfaaGreatDoor.Zg
