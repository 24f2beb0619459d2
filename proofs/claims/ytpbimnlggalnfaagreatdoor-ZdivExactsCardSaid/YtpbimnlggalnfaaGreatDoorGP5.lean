/- A part of the proofs of this seat's laws. -/
import Derived.Test.YtpbimnlggalnfaaGreatDoorGC
set_option linter.unusedVariables false
set_option linter.unusedSimpArgs false
set_option linter.unnecessarySimpa false
namespace Go.Proofs.YtpbimnlggalnfaaGreatDoor.Zg
open Go.RowKit
section
set_option maxRecDepth 100000
open Go.Proofs.Tryz
variable {a a0:Sl} {a1:Bool} {n:Int} {w:TW} {X:Nat→Prop} {K:KT [.one .bool]}
def Sh.ci(a0:Sl)(a1:Bool)(n:Int)(R:Value→TW→Prop)(w:TW):Prop:=
nwv w λw1=>
nwv w1 λw2=>
cl Pg F.dK [a0.v,.int .i64 n] w2.drew [.one .slice] λ(s:Sl) w3=>
nwv w3 λw4=>
R (.agg #[s.v,.bool a1]) w4
theorem Ct.ci{K:KT [.agg [.slice,.bool]]}(h:Sh.ci a0 a1 n (Rt X [.agg [.slice,.bool]] K w) w.here):Ct Pg F.ci [.agg #[a0.v,.bool a1],.int .i64 n] w X [.agg [.slice,.bool]] K:=
 cod (Sh.ci a0 a1 n) 12 [(2,12),(4,14)] [(12,2),(14,2)] [] f13 h
def Sh.dJ(a0:Sl)(a1:Bool)(b0:Sl)(b1:Bool)(R:Value→TW→Prop)(w:TW):Prop:=
nwv w λw1=>
nwv w1 λw2=>
Jn [.bool] (λJ0=>
cond (a1 == b1) (
cl Pg F.di [a0.v,b0.v] w2 [.one .bool] λ(ok:Bool) w3=>
J0 ok w3) (
J0 false w2)) λ(x:Bool) w4=>
R (.bool x) w4
theorem Ct.dJ{b0:Sl}{b1:Bool}(h:Sh.dJ a0 a1 b0 b1 (Rt X [.one .bool] K w) w.here):Ct Pg F.dJ [.agg #[a0.v,.bool a1],.agg #[b0.v,.bool b1]] w X [.one .bool] K:=
 cod (Sh.dJ a0 a1 b0 b1) 17 [(2,17),(3,19)] [(17,2),(19,2)] [(0,1,[(4,.one .bool)])] f22 h
def Sh.bO(a:Sl)(k:Int)(n:Int)(R:Value→TW→Prop)(w:TW):Prop:=
Jn [.slice] (λJ0=>
Lp [.slice,.int .i64] (λ(out:Sl)(i:Int) w1 C0=>
Jn [.bool] (λJ1=>
cond (decide ((i:Int)<(a.n:Int))) (
J1 (decide ((i:Int)<k)) w1) (
J1 false w1)) λ(x:Bool) w2=>
cond x (
ixa a i 2 λa1=>
ldc (.slice) w2 (a1.add 0) λ(v:Sl)=>
ldc (.bool) w2 (a1.add 1) λ(v1:Bool)=>
cl Pg F.ci [.agg #[v.v,.bool v1],.int .i64 n] w2 [.agg [.slice,.bool]] λ(r:Sl)(r1:Bool) w3=>
nwb w3 [r.v,.bool r1] T.af λb w4=>
apd w4 T.af 2 32 out ⟨(some ⟨b,0,none⟩),1,1⟩ λs w5=>
bnd (wi (i+1)) λn1=>
C0 s n1 w5) (
J0 out w2)) Sl.nil 0 w) λ(out1:Sl) w6=>
R (out1.v) w6
theorem Ct.bO{k:Int}{K:KT [.one .slice]}(h:Sh.bO a k n (Rt X [.one .slice] K w) w.here):Ct Pg F.bO [a.v,.int .i64 k,.int .i64 n] w X [.one .slice] K:=
 cod (Sh.bO a k n) 30 [] [] [(2,0,[(7,.one .slice)]),(3,3,[(7,.one .slice),(8,.one (.int .i64))]),(0,3,[(17,.one .bool)])] f26 h
def Sh.dK(a:Sl)(n:Int)(R:Value→TW→Prop)(w:TW):Prop:=
bnd (if (n:Int)<(a.n:Int) then n else (a.n:Int)) λn1=>
slc a 0 n1 1 λs=>
R (s.v) w
theorem Ct.dK{K:KT [.one .slice]}(h:Sh.dK a n (Rt X [.one .slice] K w) w.here):Ct Pg F.dK [a.v,.int .i64 n] w X [.one .slice] K:=
 cod (Sh.dK a n) 11 [] [] [] f46 h
def Sh.di(a:Sl)(b:Sl)(R:Value→TW→Prop)(w:TW):Prop:=
cond (((a.n:Int):Int) != (b.n:Int)) (
R (.bool false) w) (
Jn [] (λJ0=>
Lp [.int .i64] (λ(i:Int) w1 C0=>
cond (decide ((i:Int)<(a.n:Int))) (
ixa a i 1 λa1=>
ldc (.int .u64) w1.drew a1 λ(v:Int)=>
ixa b i 1 λa2=>
ldc (.int .u64) w1.drew a2 λ(v1:Int)=>
cond ((v:Int) != v1) (
R (.bool false) w1.drew) (
bnd (wi (i+1)) λn=>
C0 n w1.drew)) (
J0 w1)) 0 w) fun  w2=>
R (.bool true) w2)
theorem Ct.di{b:Sl}(h:Sh.di a b (Rt X [.one .bool] K w) w.here):Ct Pg F.di [a.v,b.v] w X [.one .bool] K:=
 cod (Sh.di a b) 26 [] [] [(2,0,[]),(3,4,[(5,.one (.int .i64))])] f62 h
end
section
set_option maxRecDepth 100000
open Go.Proofs.Tryz
variable {a:Sl} {w:TW} {X:Nat→Prop} {K:KT [.one .bool]}
def Sh.bD(t:HL I11)(a:Sl)(b:Sl)(even:Bool)(R:Value→TW→Prop)(w:TW):Prop:=
nwv w λw1=>
cl Pg F.cB [a.v,.int .i64 9,.int .i64 3] w1 [.one .slice,.one .slice] λ(s:Sl)(s1:Sl) w2=>
cl Pg F.cB [b.v,.int .i64 6,.int .i64 3] w2 [.one .slice,.one .slice] λ(s2:Sl)(s3:Sl) w3=>
Jn [.slice,.slice,.int .i64,.int .i64,.int .i64,.int .i64,.int .i64,.int .i64,.int .i64,.int .i64,.int .i64,.int .i64,.int .i64] (λJ0=>
cond even (
cl Pg F.cY [s1.v,s3.v] w3 [.one .slice] λ(s4:Sl) w4=>
cl Pg F.cS [s4.v] w4 [.one .slice] λ(s5:Sl) w5=>
J0 s5 s4 t.1 t.2.1 t.2.2.1 t.2.2.2.1 t.2.2.2.2.1 t.2.2.2.2.2.1 t.2.2.2.2.2.2.1 t.2.2.2.2.2.2.2.1 t.2.2.2.2.2.2.2.2.1 t.2.2.2.2.2.2.2.2.2.1 t.2.2.2.2.2.2.2.2.2.2.1 w5) (
J0 s s1 t.1 t.2.1 t.2.2.1 t.2.2.2.1 t.2.2.2.2.1 t.2.2.2.2.2.1 t.2.2.2.2.2.2.1 t.2.2.2.2.2.2.2.1 t.2.2.2.2.2.2.2.2.1 t.2.2.2.2.2.2.2.2.2.1 t.2.2.2.2.2.2.2.2.2.2.1 w3)) λ(a1:Sl)(x:Sl)(t1:Int)(t2:Int)(t3:Int)(t4:Int)(t5:Int)(t6:Int)(t7:Int)(t8:Int)(t9:Int)(t10:Int)(t11:Int) w6=>
cl Pg F.jg [.agg #[.int .i64 t1,.int .i64 t2,.int .i64 t3,.int .i64 t4,.int .i64 t5,.int .i64 t6,.int .i64 t7,.int .i64 t8,.int .i64 t9,.int .i64 t10,.int .i64 t11]] w6 [.one .ptr] λ(p:Option Addr) w7=>
cond (Option.isNone p) (
R (.bool false) w7) (
cl Pg F.cj [.pointer p,a1.v,s2.v] w7 [.one .slice,.one (.int .i64)] λ(s6:Sl)(r:Int) w8=>
cond (((s3.n:Int):Int) == 0) (
Jn [.bool] (λJ1=>
cond ((r:Int) == 2) (
cond (((s6.n:Int):Int) == 0) (
cl Pg F.aZ [] w8 [.one .bool] λ(ok:Bool) w9=>
J1 ok w9) (
J1 false w8)) (
J1 false w8)) λ(x1:Bool) w10=>
R (.bool x1) w10) (
cl Pg F.bE [x.v,s3.v] w8 [.one .slice,.one .bool] λ(s7:Sl)(ok1:Bool) w11=>
cond (!ok1) (
Jn [.bool] (λJ2=>
cond ((r:Int) == 5) (
cond (((s6.n:Int):Int) == 0) (
cond (!even) (
cl Pg F.aZ [] w11 [.one .bool] λ(ok2:Bool) w12=>
J2 ok2 w12) (
J2 false w11)) (
J2 false w11)) (
J2 false w11)) λ(x2:Bool) w13=>
R (.bool x2) w13) (
Jn [.bool] (λJ3=>
cond ((r:Int) == 0) (
cl Pg F.bS [s7.v,s6.v] w11 [.one .bool] λ(ok3:Bool) w14=>
cond ok3 (
cl Pg F.aZ [] w14 [.one .bool] λ(ok4:Bool) w15=>
J3 ok4 w15) (
J3 false w14)) (
J3 false w11)) λ(x3:Bool) w16=>
R (.bool x3) w16)))
theorem Ct.bD{t:HL I11}{b:Sl}{even:Bool}(h:Sh.bD t a b even (Rt X [.one .bool] K w) w.here):Ct Pg F.bD [.agg (aT I11 t).toArray,a.v,b.v,.bool even] w X [.one .bool] K:=
 cod (Sh.bD t a b even) 88 [(4,88)] [(88,11)] [(1,4,[(1,.one .slice),(9,.one .slice),(88,.one (.int .i64)),(89,.one (.int .i64)),(90,.one (.int .i64)),(91,.one (.int .i64)),(92,.one (.int .i64)),(93,.one (.int .i64)),(94,.one (.int .i64)),(95,.one (.int .i64)),(96,.one (.int .i64)),(97,.one (.int .i64)),(98,.one (.int .i64))]),(0,11,[(8,.one .bool)]),(0,14,[(8,.one .bool)]),(0,15,[(8,.one .bool)])] f7 h
def Sh.cB(a:Sl)(n:Int)(k:Int)(R:Value→TW→Prop)(w:TW):Prop:=
cl Pg F.bO [a.v,.int .i64 n,.int .i64 k] w [.one .slice] λ(s:Sl) w1=>
cl Pg F.cI [s.v] w1 [.one .slice] λ(s1:Sl) w2=>
R (.tuple #[s.v,s1.v]) w2
theorem Ct.cB{n:Int}{k:Int}{K:KT [.one .slice,.one .slice]}(h:Sh.cB a n k (Rt X [.one .slice,.one .slice] K w) w.here):Ct Pg F.cB [a.v,.int .i64 n,.int .i64 k] w X [.one .slice,.one .slice] K:=
 cod (Sh.cB a n k) 15 [] [] [] f10 h
def Sh.aZ(R:Value→TW→Prop)(w:TW):Prop:=
cl Pg F.jg [.agg #[.int .i64 0,.int .i64 0,.int .i64 0,.int .i64 0,.int .i64 0,.int .i64 0,.int .i64 0,.int .i64 0,.int .i64 0,.int .i64 0,.int .i64 0]] w [.one .ptr] λ(p:Option Addr) w1=>
cond (Option.isNone p) (
R (.bool false) w1) (
cl Pg F.fT [.int .i64 4] w1 [.agg [.slice,.bool]] λ(r:Sl)(r1:Bool) w2=>
cl Pg F.fT [.int .i64 (-2)] w2 [.agg [.slice,.bool]] λ(r2:Sl)(r3:Bool) w3=>
nwb w3 [r.v,.bool r1,r2.v,.bool r3] T.af λb w4=>
cl Pg F.bF [.pointer p,.slice (some ⟨b,0,none⟩) 2 2] w4 [.agg [.slice,.bool],.one .slice] λ(r4:Sl)(r5:Bool)(s:Sl) w5=>
nwv w5 λw6=>
nwv w6 λw7=>
cl Pg F.fT [.int .i64 0] w7 [.agg [.slice,.bool]] λ(r6:Sl)(r7:Bool) w8=>
cl Pg F.fT [.int .i64 2] w8 [.agg [.slice,.bool]] λ(r8:Sl)(r9:Bool) w9=>
nwb w9 [r6.v,.bool r7,r8.v,.bool r9] T.af λb1 w10=>
cl Pg F.fT [.int .i64 0] w10 [.agg [.slice,.bool]] λ(r10:Sl)(r11:Bool) w11=>
cl Pg F.fT [.int .i64 1] w11 [.agg [.slice,.bool]] λ(r12:Sl)(r13:Bool) w12=>
nwb w12 [r10.v,.bool r11,r12.v,.bool r13] T.af λb2 w13=>
cl Pg F.bo [.pointer p,.slice (some ⟨b1,0,none⟩) 2 2,.slice (some ⟨b2,0,none⟩) 2 2] w13 [.one .slice,.one (.int .i64)] λ(_:Sl)(r14:Int) w14=>
Jn [.bool] (λJ0=>
cl Pg F.fT [.int .i64 (-2)] w14.drew [.agg [.slice,.bool]] λ(r15:Sl)(r16:Bool) w15=>
cl Pg F.dJ [.agg #[r4.v,.bool r5],.agg #[r15.v,.bool r16]] w15 [.one .bool] λ(ok:Bool) w16=>
cond ok (
cond (((s.n:Int):Int) == 2) (
J0 ((r14:Int) == 7) w16) (
J0 false w16)) (
J0 false w16)) λ(x:Bool) w17=>
R (.bool x) w17)
theorem Ct.aZ(h:Sh.aZ (Rt X [.one .bool] K w) w.here):Ct Pg F.aZ [] w X [.one .bool] K:=
 cod Sh.aZ 41 [(2,41)] [(41,2)] [(0,6,[(0,.one .bool)])] f25 h
end
section
set_option maxRecDepth 100000
open Go.Proofs.Tryz
variable {a b d:Sl} {w:TW} {X:Nat→Prop} {K:KT [.one .slice]}
def Sh.cK(a:Sl)(b:Sl)(R:Value→TW→Prop)(w:TW):Prop:=
cl Pg F.cT [a.v] w [.one .slice] λ(s:Sl) w1=>
cond (((s.n:Int):Int) != (b.n:Int)) (
R (.bool false) w1) (
Jn [] (λJ0=>
Lp [.int .i64] (λ(i:Int) w2 C0=>
cond (decide ((i:Int)<(s.n:Int))) (
ixa s i 1 λa1=>
ldc (.int .u64) w2.drew a1 λ(v:Int)=>
ixa b i 1 λa2=>
ldc (.int .u64) w2.drew a2 λ(v1:Int)=>
cond ((v:Int) != v1) (
R (.bool false) w2.drew) (
bnd (wi (i+1)) λn=>
C0 n w2.drew)) (
J0 w2)) 0 w1) fun  w3=>
R (.bool true) w3)
theorem Ct.cK{K:KT [.one .bool]}(h:Sh.cK a b (Rt X [.one .bool] K w) w.here):Ct Pg F.cK [a.v,b.v] w X [.one .bool] K:=
 cod (Sh.cK a b) 29 [] [] [(2,0,[]),(3,5,[(6,.one (.int .i64))])] f20 h
def Sh.cL(a:Sl)(R:Value→TW→Prop)(w:TW):Prop:=
bnd (wi (2*(a.n:Int))) λn=>
mks w 0 n T.ao 8 [.int .u64 0] λs w1=>
Jn [.slice] (λJ0=>
Lp [.slice,.int .i64] (λ(out:Sl)(i:Int) w2 C0=>
cond (decide ((i:Int)<(a.n:Int))) (
ixa a i 1 λa1=>
ldc (.int .u64) w2.drew a1 λ(v:Int)=>
dY v 4294967296 λn1=>
ixa a i 1 λa2=>
ldc (.int .u64) w2.drew a2 λ(v1:Int)=>
eI .u64 v1 4294967296 λn2=>
nwb w2.drew [.int .u64 n1,.int .u64 n2] T.ao λb w3=>
hld w3 [(a2,.int .u64 v1),(a1,.int .u64 v)] <|
apd w3 T.ao 1 8 out ⟨(some ⟨b,0,none⟩),2,2⟩ λs1 w4=>
hld w4 [(a2,.int .u64 v1),(a1,.int .u64 v)] <|
bnd (wi (i+1)) λn3=>
C0 s1 n3 w4) (
J0 out w2)) s 0 w1) λ(out1:Sl) w5=>
cl Pg F.aG [out1.v] w5 [.one .slice] λ(s2:Sl) w6=>
R (s2.v) w6
theorem Ct.cL(h:Sh.cL a (Rt X [.one .slice] K w) w.here):Ct Pg F.cL [a.v] w X [.one .slice] K:=
 cod (Sh.cL a) 30 [] [] [(2,0,[(3,.one .slice)]),(3,3,[(3,.one .slice),(4,.one (.int .i64))])] f45 h
def Sh.bT(a:Sl)(R:Value→TW→Prop)(w:TW):Prop:=
R (.bool (((a.n:Int):Int) == 0)) w
theorem Ct.bT{K:KT [.one .bool]}(h:Sh.bT a (Rt X [.one .bool] K w) w.here):Ct Pg F.bT [a.v] w X [.one .bool] K:=
 cod (Sh.bT a) 6 [] [] [] f48 h
def Sh.cA(a:Sl)(b:Sl)(R:Value→TW→Prop)(w:TW):Prop:=
cond (((a.n:Int):Int) != (b.n:Int)) (
cond (decide (((a.n:Int):Int)<(b.n:Int))) (
R (.int .i64 (-1)) w) (
R (.int .i64 1) w)) (
bnd (wi ((a.n:Int)-1)) λn=>
Jn [] (λJ0=>
Lp [.int .i64] (λ(i:Int) w1 C0=>
cond (decide ((i:Int)≥0)) (
ixa a i 1 λa1=>
ldc (.int .u64) w1.drew a1 λ(v:Int)=>
ixa b i 1 λa2=>
ldc (.int .u64) w1.drew a2 λ(v1:Int)=>
cond (decide ((v:Int)<v1)) (
R (.int .i64 (-1)) w1.drew) (
ixa a i 1 λa3=>
ldc (.int .u64) w1.drew.drew a3 λ(v2:Int)=>
ixa b i 1 λa4=>
ldc (.int .u64) w1.drew.drew a4 λ(v3:Int)=>
cond (decide ((v2:Int)>v3)) (
R (.int .i64 1) w1.drew.drew) (
bnd (wi (i-1)) λn1=>
C0 n1 w1.drew.drew))) (
J0 w1)) n w) fun  w2=>
R (.int .i64 0) w2)
theorem Ct.cA{K:KT [.one (.int .i64)]}(h:Sh.cA a b (Rt X [.one (.int .i64)] K w) w.here):Ct Pg F.cA [a.v,b.v] w X [.one (.int .i64)] K:=
 cod (Sh.cA a b) 41 [] [] [(2,0,[]),(3,6,[(5,.one (.int .i64))])] f51 h
def Sh.cy(a:Sl)(b:Sl)(R:Value→TW→Prop)(w:TW):Prop:=
mks w 0 (a.n:Int) T.ao 8 [.int .u64 0] λs w1=>
Jn [.slice] (λJ0=>
Lp [.slice,.int .u64,.int .i64] (λ(out:Sl)(c:Int)(i:Int) w2 C0=>
cond (decide ((i:Int)<(a.n:Int))) (
Jn [.int .u64] (λJ1=>
cond (decide ((i:Int)<(b.n:Int))) (
ixa b i 1 λa1=>
ldc (.int .u64) w2 a1 λ(v:Int)=>
bnd (wu (c+v)) λn=>
J1 n w2) (
J1 c w2)) λ(s1:Int) w3=>
ixa a i 1 λa2=>
ldc (.int .u64) w3 a2 λ(v1:Int)=>
Jn [.slice,.int .u64] (λJ2=>
cond (decide ((v1:Int)≥s1)) (
ixa a i 1 λa3=>
ldc (.int .u64) w3 a3 λ(v2:Int)=>
bnd (wu (v2-s1)) λn1=>
nwb w3 [.int .u64 n1] T.ao λb1 w4=>
apd w4 T.ao 1 8 out ⟨(some ⟨b1,0,none⟩),1,1⟩ λs2 w5=>
J2 s2 0 w5) (
ixa a i 1 λa4=>
ldc (.int .u64) w3 a4 λ(v3:Int)=>
bnd (wu (v3+4294967296)) λn2=>
bnd (wu (n2-s1)) λn3=>
nwb w3 [.int .u64 n3] T.ao λb2 w6=>
apd w6 T.ao 1 8 out ⟨(some ⟨b2,0,none⟩),1,1⟩ λs3 w7=>
J2 s3 1 w7)) λ(out1:Sl)(c1:Int) w8=>
bnd (wi (i+1)) λn4=>
C0 out1 c1 n4 w8) (
J0 out w2)) s 0 0 w1) λ(out2:Sl) w9=>
cl Pg F.aG [out2.v] w9 [.one .slice] λ(s4:Sl) w10=>
R (s4.v) w10
theorem Ct.cy(h:Sh.cy a b (Rt X [.one .slice] K w) w.here):Ct Pg F.cy [a.v,b.v] w X [.one .slice] K:=
 cod (Sh.cy a b) 56 [] [] [(2,0,[(5,.one .slice)]),(3,4,[(5,.one .slice),(6,.one (.int .u64)),(7,.one (.int .i64))]),(1,8,[(8,.one (.int .u64))]),(1,10,[(5,.one .slice),(6,.one (.int .u64))])] f52 h
def Sh.cT(a:Sl)(R:Value→TW→Prop)(w:TW):Prop:=
Jn [.slice] (λJ0=>
Lp [.slice,.int .i64] (λ(out:Sl)(i:Int) w1 C0=>
cond (decide ((i:Int)<(a.n:Int))) (
ixa a i 1 λa1=>
ldc (.int .u64) w1 a1 λ(v:Int)=>
bnd (wi (i+1)) λn=>
Jn [.int .u64] (λJ1=>
cond (decide ((n:Int)<(a.n:Int))) (
bnd (wi (i+1)) λn1=>
ixa a n1 1 λa2=>
ldc (.int .u64) w1 a2 λ(v1:Int)=>
bnd (wu (v1*4294967296)) λn2=>
bnd (wu (v+n2)) λn3=>
J1 n3 w1) (
J1 v w1)) λ(y:Int) w2=>
nwb w2 [.int .u64 y] T.ao λb w3=>
apd w3 T.ao 1 8 out ⟨(some ⟨b,0,none⟩),1,1⟩ λs w4=>
bnd (wi (i+2)) λn4=>
C0 s n4 w4) (
J0 out w1)) Sl.nil 0 w) λ(out1:Sl) w5=>
Jn [.slice] (λJ2=>
Lp [.slice] (λ(out2:Sl) w6 C1=>
Jn [.bool] (λJ3=>
cond (decide (((out2.n:Int):Int)>0)) (
bnd (wi ((out2.n:Int)-1)) λn5=>
ixa out2 n5 1 λa3=>
ldc (.int .u64) w6 a3 λ(v2:Int)=>
J3 ((v2:Int) == 0) w6) (
J3 false w6)) λ(x:Bool) w7=>
cond x (
bnd (wi ((out2.n:Int)-1)) λn6=>
slc out2 0 n6 1 λs1=>
C1 s1 w7) (
J2 out2 w7)) out1 w5) λ(out3:Sl) w8=>
R (out3.v) w8
theorem Ct.cT(h:Sh.cT a (Rt X [.one .slice] K w) w.here):Ct Pg F.cT [a.v] w X [.one .slice] K:=
 cod (Sh.cT a) 51 [] [] [(2,0,[(3,.one .slice)]),(3,3,[(3,.one .slice),(4,.one (.int .i64))]),(1,7,[(5,.one (.int .u64))]),(2,2,[(3,.one .slice)]),(3,9,[(3,.one .slice)]),(0,9,[(44,.one .bool)])] f60 h
def Sh.df(a:Sl)(b:Sl)(R:Value→TW→Prop)(w:TW):Prop:=
bnd (wi ((a.n:Int)+(b.n:Int))) λn=>
mks w n n T.ao 8 [.int .u64 0] λs w1=>
Jn [] (λJ0=>
Lp [.int .i64] (λ(i:Int) w2 C0=>
cond (decide ((i:Int)<(a.n:Int))) (
Jn [.int .u64] (λJ1=>
Lp [.int .u64,.int .i64] (λ(c:Int)(j:Int) w3 C1=>
cond (decide ((j:Int)<(b.n:Int))) (
bnd (wi (i+j)) λn1=>
ixa s n1 1 λa1=>
ldc (.int .u64) w3.drew a1 λ(v:Int)=>
ixa a i 1 λa2=>
ldc (.int .u64) w3.drew a2 λ(v1:Int)=>
ixa b j 1 λa3=>
ldc (.int .u64) w3.drew a3 λ(v2:Int)=>
bnd (wu (v1*v2)) λn2=>
bnd (wu (v+n2)) λn3=>
bnd (wu (n3+c)) λn4=>
bnd (wi (i+j)) λn5=>
dY n4 4294967296 λn6=>
ixa s n5 1 λa4=>
stc w3.drew a4 (.int .u64 n6) λw4=>
eI .u64 n4 4294967296 λn7=>
bnd (wi (j+1)) λn8=>
C1 n7 n8 w4) (
J1 c w3)) 0 0 w2) λ(c1:Int) w5=>
bnd (wi (i+(b.n:Int))) λn9=>
ixa s n9 1 λa5=>
stc w5 a5 (.int .u64 c1) λw6=>
bnd (wi (i+1)) λn10=>
C0 n10 w6) (
J0 w2)) 0 w1) fun  w7=>
cl Pg F.aG [s.v] w7 [.one .slice] λ(s1:Sl) w8=>
R (s1.v) w8
theorem Ct.df(h:Sh.df a b (Rt X [.one .slice] K w) w.here):Ct Pg F.df [a.v,b.v] w X [.one .slice] K:=
 cod (Sh.df a b) 64 [] [] [(2,0,[]),(3,3,[(6,.one (.int .i64))]),(2,2,[(7,.one (.int .u64))]),(3,7,[(7,.one (.int .u64)),(8,.one (.int .i64))])] f84 h
def Sh.aG(a:Sl)(R:Value→TW→Prop)(w:TW):Prop:=
Jn [.int .i64] (λJ0=>
Lp [.int .i64] (λ(k:Int) w1 C0=>
Jn [.bool] (λJ1=>
cond (decide ((k:Int)>0)) (
bnd (wi (k-1)) λn=>
ixa a n 1 λa1=>
ldc (.int .u64) w1 a1 λ(v:Int)=>
J1 ((v:Int) == 0) w1) (
J1 false w1)) λ(x:Bool) w2=>
cond x (
bnd (wi (k-1)) λn1=>
C0 n1 w2) (
J0 k w2)) (a.n:Int) w) λ(k1:Int) w3=>
slc a 0 k1 1 λs=>
R (s.v) w3
theorem Ct.aG(h:Sh.aG a (Rt X [.one .slice] K w) w.here):Ct Pg F.aG [a.v] w X [.one .slice] K:=
 cod (Sh.aG a) 21 [] [] [(2,0,[(3,.one (.int .i64))]),(3,2,[(3,.one (.int .i64))]),(0,2,[(15,.one .bool)])] f85 h
def Sh.dh(a:Sl)(b:Sl)(R:Value→TW→Prop)(w:TW):Prop:=
bnd (if ((b.n:Int):Int)>(a.n:Int) then (b.n:Int) else (a.n:Int)) λn=>
bnd (wi (n+1)) λn1=>
mks w 0 n1 T.ao 8 [.int .u64 0] λs w1=>
Jn [.slice] (λJ0=>
Lp [.slice,.int .u64,.int .i64] (λ(out:Sl)(c:Int)(i:Int) w2 C0=>
Jn [.bool] (λJ1=>
cond (decide ((i:Int)<(a.n:Int))) (
J1 true w2) (
cond (decide ((i:Int)<(b.n:Int))) (
J1 true w2) (
J1 (decide ((c:Int)>0)) w2))) λ(x:Bool) w3=>
cond x (
Jn [.int .u64] (λJ2=>
cond (decide ((i:Int)<(a.n:Int))) (
ixa a i 1 λa1=>
ldc (.int .u64) w3 a1 λ(v:Int)=>
bnd (wu (c+v)) λn2=>
J2 n2 w3) (
J2 c w3)) λ(c1:Int) w4=>
Jn [.int .u64] (λJ3=>
cond (decide ((i:Int)<(b.n:Int))) (
ixa b i 1 λa2=>
ldc (.int .u64) w4 a2 λ(v1:Int)=>
bnd (wu (c1+v1)) λn3=>
J3 n3 w4) (
J3 c1 w4)) λ(c2:Int) w5=>
dY c2 4294967296 λn4=>
nwb w5 [.int .u64 n4] T.ao λb1 w6=>
apd w6 T.ao 1 8 out ⟨(some ⟨b1,0,none⟩),1,1⟩ λs1 w7=>
eI .u64 c2 4294967296 λn5=>
bnd (wi (i+1)) λn6=>
C0 s1 n5 n6 w7) (
J0 out w3)) s 0 0 w1) λ(out1:Sl) w8=>
cl Pg F.aG [out1.v] w8 [.one .slice] λ(s2:Sl) w9=>
R (s2.v) w9
theorem Ct.dh(h:Sh.dh a b (Rt X [.one .slice] K w) w.here):Ct Pg F.dh [a.v,b.v] w X [.one .slice] K:=
 cod (Sh.dh a b) 60 [] [] [(2,0,[(5,.one .slice)]),(3,4,[(5,.one .slice),(6,.one (.int .u64)),(7,.one (.int .i64))]),(0,4,[(28,.one .bool)]),(1,7,[(6,.one (.int .u64))]),(1,9,[(6,.one (.int .u64))])] f92 h
def Sh.bN(a:Sl)(d:Sl)(R:Value→TW→Prop)(w:TW):Prop:=
cl Pg F.cA [a.v,d.v] w [.one (.int .i64)] λ(r:Int) w1=>
cond (decide ((r:Int)<0)) (
R (.tuple #[.slice none 0 0,a.v]) w1) (
bnd (wi ((d.n:Int)+1)) λn=>
mks w1 n n T.ao 8 [.int .u64 0] λs w2=>
mks w2 (a.n:Int) (a.n:Int) T.ao 8 [.int .u64 0] λs1 w3=>
cl Pg F.cM [a.v] w3 [.one (.int .i64)] λ(r1:Int) w4=>
bnd (wi (r1-1)) λn1=>
Jn [] (λJ0=>
Lp [.int .i64] (λ(i:Int) w5 C0=>
cond (decide ((i:Int)≥0)) (
cl Pg F.de [a.v,.int .i64 i] w5 [.one (.int .u64)] λ(r2:Int) w6=>
cl Pg F.ch [s.v,.int .u64 r2,d.v] w6 [.one .bool] λ(ok:Bool) w7=>
Jn [] (λJ1=>
cond ok (
eI .i64 i 32 λn2=>
ixa s1 n2 1 λa1=>
ldc (.int .u64) w7 a1 λ(v:Int)=>
dY i 32 λn3=>
bnd (wu (n3)) λn4=>
ju .u64 1 n4 λn5=>
bnd (bh .or .u64 v n5) λn6=>
ixa s1 n2 1 λa2=>
stc w7 a2 (.int .u64 n6) λw8=>
J1 w8) (
J1 w7)) fun  w9=>
bnd (wi (i-1)) λn7=>
C0 n7 w9) (
J0 w5)) n1 w4) fun  w10=>
cl Pg F.aG [s1.v] w10 [.one .slice] λ(s2:Sl) w11=>
cl Pg F.aG [s.v] w11 [.one .slice] λ(s3:Sl) w12=>
R (.tuple #[s2.v,s3.v]) w12)
theorem Ct.bN{K:KT [.one .slice,.one .slice]}(h:Sh.bN a d (Rt X [.one .slice,.one .slice] K w) w.here):Ct Pg F.bN [a.v,d.v] w X [.one .slice,.one .slice] K:=
 cod (Sh.bN a d) 49 [] [] [(2,0,[]),(3,6,[(8,.one (.int .i64))]),(1,9,[])] f107 h
def Sh.cM(a:Sl)(R:Value→TW→Prop)(w:TW):Prop:=
cond (((a.n:Int):Int) == 0) (
R (.int .i64 0) w) (
bnd (wi ((a.n:Int)-1)) λn=>
bnd (wi (32*n)) λn1=>
bnd (wi ((a.n:Int)-1)) λn2=>
ixa a n2 1 λa1=>
ldc (.int .u64) w a1 λ(v:Int)=>
Jn [.int .i64] (λJ0=>
Lp [.int .i64,.int .u64] (λ(n3:Int)(y:Int) w1 C0=>
cond (decide ((y:Int)>0)) (
bnd (wi (n3+1)) λn4=>
eI .u64 y 2 λn5=>
C0 n4 n5 w1) (
J0 n3 w1)) n1 v w) λ(n6:Int) w2=>
R (.int .i64 n6) w2)
theorem Ct.cM{K:KT [.one (.int .i64)]}(h:Sh.cM a (Rt X [.one (.int .i64)] K w) w.here):Ct Pg F.cM [a.v] w X [.one (.int .i64)] K:=
 cod (Sh.cM a) 25 [] [] [(2,0,[(3,.one (.int .i64))]),(3,5,[(3,.one (.int .i64)),(4,.one (.int .u64))])] f129 h
def Sh.ch(r:Sl)(b:Int)(d:Sl)(R:Value→TW→Prop)(w:TW):Prop:=
Jn [] (λJ0=>
Lp [.int .u64,.int .i64] (λ(b1:Int)(i:Int) w1 C0=>
cond (decide ((i:Int)<(r.n:Int))) (
ixa r i 1 λa=>
ldc (.int .u64) w1 a λ(v:Int)=>
bnd (wu (2*v)) λn=>
bnd (wu (n+b1)) λn1=>
dY n1 4294967296 λn2=>
ixa r i 1 λa1=>
stc w1 a1 (.int .u64 n2) λw2=>
eI .u64 n1 4294967296 λn3=>
bnd (wi (i+1)) λn4=>
C0 n3 n4 w2) (
J0 w1)) b 0 w) fun  w3=>
bnd (wi ((r.n:Int)-1)) λn5=>
Jn [.bool] (λJ1=>
Lp [.bool,.int .i64] (λ(more:Bool)(i1:Int) w4 C1=>
cond (decide ((i1:Int)≥0)) (
Jn [.int .u64] (λJ2=>
cond (decide ((i1:Int)<(d.n:Int))) (
ixa d i1 1 λa2=>
ldc (.int .u64) w4 a2 λ(v1:Int)=>
J2 v1 w4) (
J2 0 w4)) λ(y:Int) w5=>
ixa r i1 1 λa3=>
ldc (.int .u64) w5 a3 λ(v2:Int)=>
cond ((v2:Int) != y) (
ixa r i1 1 λa4=>
ldc (.int .u64) w5 a4 λ(v3:Int)=>
J1 (decide ((v3:Int)>y)) w5) (
bnd (wi (i1-1)) λn6=>
C1 more n6 w5)) (
J1 more w4)) true n5 w3) λ(more1:Bool) w6=>
cond (!more1) (
R (.bool false) w6) (
Jn [] (λJ3=>
Lp [.int .u64,.int .i64] (λ(c:Int)(i2:Int) w7 C2=>
cond (decide ((i2:Int)<(r.n:Int))) (
Jn [.int .u64] (λJ4=>
cond (decide ((i2:Int)<(d.n:Int))) (
ixa d i2 1 λa5=>
ldc (.int .u64) w7 a5 λ(v4:Int)=>
bnd (wu (c+v4)) λn7=>
J4 n7 w7) (
J4 c w7)) λ(s:Int) w8=>
ixa r i2 1 λa6=>
ldc (.int .u64) w8 a6 λ(v5:Int)=>
Jn [.int .u64] (λJ5=>
cond (decide ((v5:Int)≥s)) (
ixa r i2 1 λa7=>
ldc (.int .u64) w8 a7 λ(v6:Int)=>
bnd (wu (v6-s)) λn8=>
ixa r i2 1 λa8=>
stc w8 a8 (.int .u64 n8) λw9=>
J5 0 w9) (
ixa r i2 1 λa9=>
ldc (.int .u64) w8 a9 λ(v7:Int)=>
bnd (wu (4294967296-s)) λn9=>
bnd (wu (v7+n9)) λn10=>
ixa r i2 1 λa10=>
stc w8 a10 (.int .u64 n10) λw10=>
J5 1 w10)) λ(c1:Int) w11=>
bnd (wi (i2+1)) λn11=>
C2 c1 n11 w11) (
J3 w7)) 0 0 w6) fun  w12=>
R (.bool true) w12)
theorem Ct.ch{r:Sl}{b:Int}{K:KT [.one .bool]}(h:Sh.ch r b d (Rt X [.one .bool] K w) w.here):Ct Pg F.ch [r.v,.int .u64 b,d.v] w X [.one .bool] K:=
 cod (Sh.ch r b d) 102 [] [] [(2,0,[]),(3,2,[(1,.one (.int .u64)),(7,.one (.int .i64))]),(2,2,[(9,.one .bool)]),(3,9,[(9,.one .bool),(10,.one (.int .i64))]),(1,13,[(11,.one (.int .u64))]),(2,4,[]),(3,20,[(12,.one (.int .u64)),(13,.one (.int .i64))]),(1,24,[(14,.one (.int .u64))]),(1,26,[(12,.one (.int .u64))])] f130 h
def Sh.de(a:Sl)(i:Int)(R:Value→TW→Prop)(w:TW):Prop:=
eI .i64 i 32 λn=>
ixa a n 1 λa1=>
ldc (.int .u64) w a1 λ(v:Int)=>
dY i 32 λn1=>
bnd (wu (n1)) λn2=>
gc .u64 v n2 λn3=>
bnd (bh .and .u64 n3 1) λn4=>
R (.int .u64 n4) w
theorem Ct.de{i:Int}{K:KT [.one (.int .u64)]}(h:Sh.de a i (Rt X [.one (.int .u64)] K w) w.here):Ct Pg F.de [a.v,.int .i64 i] w X [.one (.int .u64)] K:=
 cod (Sh.de a i) 15 [] [] [] f131 h
end
section
set_option maxRecDepth 100000
open Go.Proofs.Tryz
variable {a0 b0:Sl} {a1 b1:Bool} {w:TW} {X:Nat→Prop} {K:KT [.agg [.slice,.bool]]}
def Sh.cJ(a0:Sl)(a1:Bool)(R:Value→TW→Prop)(w:TW):Prop:=
nwv w λw1=>
nwv w1 λw2=>
cl Pg F.cL [a0.v] w2.drew [.one .slice] λ(s:Sl) w3=>
cl Pg F.au [s.v,.bool a1] w3 [.agg [.slice,.bool]] λ(r:Sl)(r1:Bool) w4=>
nwv w4 λw5=>
R (.agg #[r.v,.bool r1]) w5
theorem Ct.cJ(h:Sh.cJ a0 a1 (Rt X [.agg [.slice,.bool]] K w) w.here):Ct Pg F.cJ [.agg #[a0.v,.bool a1]] w X [.agg [.slice,.bool]] K:=
 cod (Sh.cJ a0 a1) 9 [(1,9),(2,11)] [(9,2),(11,2)] [] f12 h
def Sh.dH(a0:Sl)(a1:Bool)(R:Value→TW→Prop)(w:TW):Prop:=
nwv w λw1=>
nwv w1 λw2=>
cl Pg F.cT [a0.v] w2.drew [.one .slice] λ(s:Sl) w3=>
nwv w3 λw4=>
R (.agg #[s.v,.bool a1]) w4
theorem Ct.dH(h:Sh.dH a0 a1 (Rt X [.agg [.slice,.bool]] K w) w.here):Ct Pg F.dH [.agg #[a0.v,.bool a1]] w X [.agg [.slice,.bool]] K:=
 cod (Sh.dH a0 a1) 9 [(1,9),(2,11)] [(9,2),(11,2)] [] f23 h
def Sh.cx(a0:Sl)(a1:Bool)(b0:Sl)(b1:Bool)(R:Value→TW→Prop)(w:TW):Prop:=
nwv w λw1=>
nwv w1 λw2=>
nwv w2 λw3=>
cl Pg F.df [a0.v,b0.v] w3.drew [.one .slice] λ(s:Sl) w4=>
cl Pg F.au [s.v,.bool (!(a1 == b1))] w4 [.agg [.slice,.bool]] λ(r:Sl)(r1:Bool) w5=>
nwv w5 λw6=>
R (.agg #[r.v,.bool r1]) w6
theorem Ct.cx(h:Sh.cx a0 a1 b0 b1 (Rt X [.agg [.slice,.bool]] K w) w.here):Ct Pg F.cx [.agg #[a0.v,.bool a1],.agg #[b0.v,.bool b1]] w X [.agg [.slice,.bool]] K:=
 cod (Sh.cx a0 a1 b0 b1) 16 [(2,16),(3,18),(4,20)] [(16,2),(18,2),(20,2)] [] f42 h
def Sh.au(n:Sl)(neg:Bool)(R:Value→TW→Prop)(w:TW):Prop:=
nwv w λw1=>
Jn [.slice,.bool] (λJ0=>
cond neg (
cl Pg F.bT [n.v] w1 [.one .bool] λ(ok:Bool) w2=>
nwv w2 λw3=>
J0 n (!ok) w3) (
nwv w1 λw4=>
J0 n false w4)) λ(x:Sl)(x1:Bool) w5=>
R (.agg #[x.v,.bool x1]) w5
theorem Ct.au{n:Sl}{neg:Bool}(h:Sh.au n neg (Rt X [.agg [.slice,.bool]] K w) w.here):Ct Pg F.au [n.v,.bool neg] w X [.agg [.slice,.bool]] K:=
 cod (Sh.au n neg) 13 [(4,13)] [(13,2)] [(0,1,[(13,.one .slice),(14,.one .bool)])] f44 h
def Sh.dc(a0:Sl)(a1:Bool)(R:Value→TW→Prop)(w:TW):Prop:=
nwv w λw1=>
nwv w1 λw2=>
cl Pg F.au [a0.v,.bool (!a1)] w2 [.agg [.slice,.bool]] λ(r:Sl)(r1:Bool) w3=>
nwv w3 λw4=>
R (.agg #[r.v,.bool r1]) w4
theorem Ct.dc(h:Sh.dc a0 a1 (Rt X [.agg [.slice,.bool]] K w) w.here):Ct Pg F.dc [.agg #[a0.v,.bool a1]] w X [.agg [.slice,.bool]] K:=
 cod (Sh.dc a0 a1) 9 [(1,9),(2,11)] [(9,2),(11,2)] [] f58 h
def Sh.bJ(a0:Sl)(a1:Bool)(b0:Sl)(b1:Bool)(R:Value→TW→Prop)(w:TW):Prop:=
nwv w λw1=>
nwv w1 λw2=>
nwv w2 λw3=>
cond (a1 == b1) (
cl Pg F.dh [a0.v,b0.v] w3.drew [.one .slice] λ(s:Sl) w4=>
cl Pg F.au [s.v,.bool a1] w4 [.agg [.slice,.bool]] λ(r:Sl)(r1:Bool) w5=>
nwv w5 λw6=>
R (.agg #[r.v,.bool r1]) w6) (
cl Pg F.cA [a0.v,b0.v] w3 [.one (.int .i64)] λ(r2:Int) w7=>
cond (decide ((r2:Int)≥0)) (
cl Pg F.cy [a0.v,b0.v] w7.drew [.one .slice] λ(s1:Sl) w8=>
cl Pg F.au [s1.v,.bool a1] w8 [.agg [.slice,.bool]] λ(r3:Sl)(r4:Bool) w9=>
nwv w9 λw10=>
R (.agg #[r3.v,.bool r4]) w10) (
cl Pg F.cy [b0.v,a0.v] w7.drew [.one .slice] λ(s2:Sl) w11=>
cl Pg F.au [s2.v,.bool b1] w11 [.agg [.slice,.bool]] λ(r5:Sl)(r6:Bool) w12=>
nwv w12 λw13=>
R (.agg #[r5.v,.bool r6]) w13))
theorem Ct.bJ(h:Sh.bJ a0 a1 b0 b1 (Rt X [.agg [.slice,.bool]] K w) w.here):Ct Pg F.bJ [.agg #[a0.v,.bool a1],.agg #[b0.v,.bool b1]] w X [.agg [.slice,.bool]] K:=
 cod (Sh.bJ a0 a1 b0 b1) 40 [(2,40),(3,42),(4,44)] [(40,2),(42,2),(44,2)] [] f64 h
def Sh.cZ(a0:Sl)(a1:Bool)(b0:Sl)(b1:Bool)(R:Value→TW→Prop)(w:TW):Prop:=
nwv w λw1=>
nwv w1 λw2=>
nwv w2 λw3=>
cl Pg F.dc [.agg #[b0.v,.bool b1]] w3.drew [.agg [.slice,.bool]] λ(r:Sl)(r1:Bool) w4=>
cl Pg F.bJ [.agg #[a0.v,.bool a1],.agg #[r.v,.bool r1]] w4 [.agg [.slice,.bool]] λ(r2:Sl)(r3:Bool) w5=>
nwv w5 λw6=>
R (.agg #[r2.v,.bool r3]) w6
theorem Ct.cZ(h:Sh.cZ a0 a1 b0 b1 (Rt X [.agg [.slice,.bool]] K w) w.here):Ct Pg F.cZ [.agg #[a0.v,.bool a1],.agg #[b0.v,.bool b1]] w X [.agg [.slice,.bool]] K:=
 cod (Sh.cZ a0 a1 b0 b1) 9 [(2,9),(3,11),(4,13)] [(9,2),(11,2),(13,2)] [] f77 h
def Sh.aH(a0:Sl)(a1:Bool)(b0:Sl)(b1:Bool)(R:Value→TW→Prop)(w:TW):Prop:=
nwv w λw1=>
nwv w1 λw2=>
nwv w2 λw3=>
nwv w3 λw4=>
cl Pg F.bN [a0.v,b0.v] w4 [.one .slice,.one .slice] λ(s:Sl)(s1:Sl) w5=>
cl Pg F.au [s.v,.bool (!(a1 == b1))] w5.drew [.agg [.slice,.bool]] λ(r:Sl)(r1:Bool) w6=>
cl Pg F.au [s1.v,.bool a1] w6 [.agg [.slice,.bool]] λ(r2:Sl)(r3:Bool) w7=>
nwv w7 λw8=>
nwv w8 λw9=>
R (.tuple #[.agg #[r.v,.bool r1],.agg #[r2.v,.bool r3]]) w9
theorem Ct.aH{K:KT [.agg [.slice,.bool],.agg [.slice,.bool]]}(h:Sh.aH a0 a1 b0 b1 (Rt X [.agg [.slice,.bool],.agg [.slice,.bool]] K w) w.here):Ct Pg F.aH [.agg #[a0.v,.bool a1],.agg #[b0.v,.bool b1]] w X [.agg [.slice,.bool],.agg [.slice,.bool]] K:=
 cod (Sh.aH a0 a1 b0 b1) 27 [(2,27),(3,29),(4,31),(5,33)] [(27,2),(29,2),(31,2),(33,2)] [] f82 h
def Sh.aB(a0:Sl)(a1:Bool)(R:Value→TW→Prop)(w:TW):Prop:=
nwv w λw1=>
cl Pg F.bT [a0.v] w1 [.one .bool] λ(ok:Bool) w2=>
R (.bool ok) w2
theorem Ct.aB{K:KT [.one .bool]}(h:Sh.aB a0 a1 (Rt X [.one .bool] K w) w.here):Ct Pg F.aB [.agg #[a0.v,.bool a1]] w X [.one .bool] K:=
 cod (Sh.aB a0 a1) 6 [(1,6)] [(6,2)] [] f83 h
end
section
set_option maxRecDepth 100000
open Go.Proofs.Tryz
variable {a b:Sl} {w:TW} {X:Nat→Prop} {K:KT [.one .slice]}
def Sh.aE(a:Sl)(c0:Sl)(c1:Bool)(R:Value→TW→Prop)(w:TW):Prop:=
nwv w λw1=>
Jn [.slice] (λJ0=>
Lp [.slice,.int .i64,.slice,.bool] (λ(out:Sl)(i:Int)(c2:Sl)(c3:Bool) w2 C0=>
cond (decide ((i:Int)<(a.n:Int))) (
ixa a i 2 λa1=>
ldc (.slice) w2.drew (a1.add 0) λ(v:Sl)=>
ldc (.bool) w2.drew (a1.add 1) λ(v1:Bool)=>
cl Pg F.cx [.agg #[v.v,.bool v1],.agg #[c2.v,.bool c3]] w2.drew [.agg [.slice,.bool]] λ(r:Sl)(r1:Bool) w3=>
nwb w3 [r.v,.bool r1] T.aj λb w4=>
apd w4 T.aj 2 32 out ⟨(some ⟨b,0,none⟩),1,1⟩ λs w5=>
bnd (wi (i+1)) λn=>
C0 s n c2 c3 w5) (
J0 out w2)) Sl.nil 0 c0 c1 w1) λ(out1:Sl) w6=>
cl Pg F.aU [out1.v] w6 [.one .slice] λ(s1:Sl) w7=>
R (s1.v) w7
theorem Ct.aE{c0:Sl}{c1:Bool}(h:Sh.aE a c0 c1 (Rt X [.one .slice] K w) w.here):Ct Pg F.aE [a.v,.agg #[c0.v,.bool c1]] w X [.one .slice] K:=
 cod (Sh.aE a c0 c1) 24 [(3,24)] [(24,2)] [(2,0,[(5,.one .slice)]),(3,3,[(5,.one .slice),(6,.one (.int .i64)),(24,.one .slice),(25,.one .bool)])] f11 h
def Sh.cS(a:Sl)(R:Value→TW→Prop)(w:TW):Prop:=
Jn [.slice] (λJ0=>
Lp [.slice,.int .i64] (λ(out:Sl)(i:Int) w1 C0=>
cond (decide ((i:Int)<(a.n:Int))) (
ixa a i 2 λa1=>
ldc (.slice) w1 (a1.add 0) λ(v:Sl)=>
ldc (.bool) w1 (a1.add 1) λ(v1:Bool)=>
cl Pg F.dH [.agg #[v.v,.bool v1]] w1 [.agg [.slice,.bool]] λ(r:Sl)(r1:Bool) w2=>
nwb w2 [r.v,.bool r1] T.af λb w3=>
apd w3 T.af 2 32 out ⟨(some ⟨b,0,none⟩),1,1⟩ λs w4=>
bnd (wi (i+1)) λn=>
C0 s n w4) (
J0 out w1)) Sl.nil 0 w) λ(out1:Sl) w5=>
R (out1.v) w5
theorem Ct.cS(h:Sh.cS a (Rt X [.one .slice] K w) w.here):Ct Pg F.cS [a.v] w X [.one .slice] K:=
 cod (Sh.cS a) 20 [] [] [(2,0,[(3,.one .slice)]),(3,3,[(3,.one .slice),(4,.one (.int .i64))])] f14 h
def Sh.bS(a:Sl)(b:Sl)(R:Value→TW→Prop)(w:TW):Prop:=
cl Pg F.cS [a.v] w [.one .slice] λ(s:Sl) w1=>
cond (((s.n:Int):Int) != (b.n:Int)) (
R (.bool false) w1) (
Jn [] (λJ0=>
Lp [.int .i64] (λ(i:Int) w2 C0=>
cond (decide ((i:Int)<(s.n:Int))) (
Jn [.bool] (λJ1=>
ixa s i 2 λa1=>
ldc (.bool) w2.drew (a1.add 1) λ(v:Bool)=>
ixa b i 2 λa2=>
ldc (.bool) w2.drew (a2.add 1) λ(v1:Bool)=>
cond (!(v == v1)) (
J1 true w2.drew) (
ixa a i 2 λa3=>
ldc (.slice) w2.drew a3 λ(v2:Sl)=>
ixa b i 2 λa4=>
ldc (.slice) w2.drew a4 λ(v3:Sl)=>
cl Pg F.cK [v2.v,v3.v] w2.drew [.one .bool] λ(ok:Bool) w3=>
hld w3 [((a2.add 1),.bool v1),((a1.add 1),.bool v)] <|
J1 (!ok) w3)) λ(x:Bool) w4=>
cond x (
R (.bool false) w4) (
bnd (wi (i+1)) λn=>
C0 n w4)) (
J0 w2)) 0 w1) fun  w5=>
R (.bool true) w5)
theorem Ct.bS{K:KT [.one .bool]}(h:Sh.bS a b (Rt X [.one .bool] K w) w.here):Ct Pg F.bS [a.v,b.v] w X [.one .bool] K:=
 cod (Sh.bS a b) 45 [] [] [(2,0,[]),(3,5,[(6,.one (.int .i64))]),(0,7,[(44,.one .bool)])] f24 h
def Sh.cI(a:Sl)(R:Value→TW→Prop)(w:TW):Prop:=
Jn [.slice] (λJ0=>
Lp [.slice,.int .i64] (λ(out:Sl)(i:Int) w1 C0=>
cond (decide ((i:Int)<(a.n:Int))) (
ixa a i 2 λa1=>
ldc (.slice) w1 (a1.add 0) λ(v:Sl)=>
ldc (.bool) w1 (a1.add 1) λ(v1:Bool)=>
cl Pg F.cJ [.agg #[v.v,.bool v1]] w1 [.agg [.slice,.bool]] λ(r:Sl)(r1:Bool) w2=>
nwb w2 [r.v,.bool r1] T.aj λb w3=>
apd w3 T.aj 2 32 out ⟨(some ⟨b,0,none⟩),1,1⟩ λs w4=>
bnd (wi (i+1)) λn=>
C0 s n w4) (
J0 out w1)) Sl.nil 0 w) λ(out1:Sl) w5=>
cl Pg F.aU [out1.v] w5 [.one .slice] λ(s1:Sl) w6=>
R (s1.v) w6
theorem Ct.cI(h:Sh.cI a (Rt X [.one .slice] K w) w.here):Ct Pg F.cI [a.v] w X [.one .slice] K:=
 cod (Sh.cI a) 21 [] [] [(2,0,[(3,.one .slice)]),(3,3,[(3,.one .slice),(4,.one (.int .i64))])] f27 h
def Sh.aN(a:Sl)(b:Sl)(R:Value→TW→Prop)(w:TW):Prop:=
Jn [.slice] (λJ0=>
Lp [.slice,.int .i64] (λ(out:Sl)(i:Int) w1 C0=>
bnd (if ((b.n:Int):Int)>(a.n:Int) then (b.n:Int) else (a.n:Int)) λn=>
cond (decide ((i:Int)<n)) (
cl Pg F.bI [a.v,.int .i64 i] w1 [.agg [.slice,.bool]] λ(r:Sl)(r1:Bool) w2=>
cl Pg F.bI [b.v,.int .i64 i] w2 [.agg [.slice,.bool]] λ(r2:Sl)(r3:Bool) w3=>
cl Pg F.bJ [.agg #[r.v,.bool r1],.agg #[r2.v,.bool r3]] w3 [.agg [.slice,.bool]] λ(r4:Sl)(r5:Bool) w4=>
nwb w4 [r4.v,.bool r5] T.aj λb1 w5=>
apd w5 T.aj 2 32 out ⟨(some ⟨b1,0,none⟩),1,1⟩ λs w6=>
bnd (wi (i+1)) λn1=>
C0 s n1 w6) (
J0 out w1)) Sl.nil 0 w) λ(out1:Sl) w7=>
cl Pg F.aU [out1.v] w7 [.one .slice] λ(s1:Sl) w8=>
R (s1.v) w8
theorem Ct.aN(h:Sh.aN a b (Rt X [.one .slice] K w) w.here):Ct Pg F.aN [a.v,b.v] w X [.one .slice] K:=
 cod (Sh.aN a b) 28 [] [] [(2,0,[(5,.one .slice)]),(3,3,[(5,.one .slice),(6,.one (.int .i64))])] f34 h
def Sh.cY(a:Sl)(b:Sl)(R:Value→TW→Prop)(w:TW):Prop:=
Jn [.bool] (λJ0=>
cond (((a.n:Int):Int) == 0) (
J0 true w) (
J0 (((b.n:Int):Int) == 0) w)) λ(x:Bool) w1=>
cond x (
R (.slice none 0 0) w1) (
bnd (wi ((a.n:Int)+(b.n:Int))) λn=>
bnd (wi (n-1)) λn1=>
mks w1 n1 n1 T.aj 32 [.slice none 0 0,.bool false] λs w2=>
Jn [] (λJ1=>
Lp [.int .i64] (λ(i:Int) w3 C0=>
cond (decide ((i:Int)<(a.n:Int))) (
Jn [] (λJ2=>
Lp [.int .i64] (λ(j:Int) w4 C1=>
cond (decide ((j:Int)<(b.n:Int))) (
bnd (wi (i+j)) λn2=>
bnd (wi (i+j)) λn3=>
ixa s n3 2 λa1=>
ldc (.slice) w4.drew (a1.add 0) λ(v:Sl)=>
ldc (.bool) w4.drew (a1.add 1) λ(v1:Bool)=>
ixa a i 2 λa2=>
ldc (.slice) w4.drew (a2.add 0) λ(v2:Sl)=>
ldc (.bool) w4.drew (a2.add 1) λ(v3:Bool)=>
ixa b j 2 λa3=>
ldc (.slice) w4.drew (a3.add 0) λ(v4:Sl)=>
ldc (.bool) w4.drew (a3.add 1) λ(v5:Bool)=>
cl Pg F.cx [.agg #[v2.v,.bool v3],.agg #[v4.v,.bool v5]] w4.drew [.agg [.slice,.bool]] λ(r:Sl)(r1:Bool) w5=>
hld w5 [(a1.add 0,v.v),(a1.add 1,.bool v1)] <|
cl Pg F.bJ [.agg #[v.v,.bool v1],.agg #[r.v,.bool r1]] w5 [.agg [.slice,.bool]] λ(r2:Sl)(r3:Bool) w6=>
ixa s n2 2 λa4=>
stc w6 a4 r2.v λw7=>
stc w7 (a4.add 1) (.bool r3) λw8=>
bnd (wi (j+1)) λn4=>
C1 n4 w8) (
J2 w4)) 0 w3) fun  w9=>
bnd (wi (i+1)) λn5=>
C0 n5 w9) (
J1 w3)) 0 w2) fun  w10=>
cl Pg F.aU [s.v] w10 [.one .slice] λ(s1:Sl) w11=>
R (s1.v) w11)
theorem Ct.cY(h:Sh.cY a b (Rt X [.one .slice] K w) w.here):Ct Pg F.cY [a.v,b.v] w X [.one .slice] K:=
 cod (Sh.cY a b) 58 [] [] [(0,1,[(15,.one .bool)]),(2,0,[]),(3,5,[(6,.one (.int .i64))]),(2,2,[]),(3,8,[(7,.one (.int .i64))])] f35 h
def Sh.aM(a:Sl)(b:Sl)(R:Value→TW→Prop)(w:TW):Prop:=
Jn [.slice] (λJ0=>
Lp [.slice,.int .i64] (λ(out:Sl)(i:Int) w1 C0=>
bnd (if ((b.n:Int):Int)>(a.n:Int) then (b.n:Int) else (a.n:Int)) λn=>
cond (decide ((i:Int)<n)) (
cl Pg F.bI [a.v,.int .i64 i] w1 [.agg [.slice,.bool]] λ(r:Sl)(r1:Bool) w2=>
cl Pg F.bI [b.v,.int .i64 i] w2 [.agg [.slice,.bool]] λ(r2:Sl)(r3:Bool) w3=>
cl Pg F.cZ [.agg #[r.v,.bool r1],.agg #[r2.v,.bool r3]] w3 [.agg [.slice,.bool]] λ(r4:Sl)(r5:Bool) w4=>
nwb w4 [r4.v,.bool r5] T.aj λb1 w5=>
apd w5 T.aj 2 32 out ⟨(some ⟨b1,0,none⟩),1,1⟩ λs w6=>
bnd (wi (i+1)) λn1=>
C0 s n1 w6) (
J0 out w1)) Sl.nil 0 w) λ(out1:Sl) w7=>
cl Pg F.aU [out1.v] w7 [.one .slice] λ(s1:Sl) w8=>
R (s1.v) w8
theorem Ct.aM(h:Sh.aM a b (Rt X [.one .slice] K w) w.here):Ct Pg F.aM [a.v,b.v] w X [.one .slice] K:=
 cod (Sh.aM a b) 28 [] [] [(2,0,[(5,.one .slice)]),(3,3,[(5,.one .slice),(6,.one (.int .i64))])] f36 h
def Sh.bE(a:Sl)(b:Sl)(R:Value→TW→Prop)(w:TW):Prop:=
Jn [.slice,.slice] (λJ0=>
Lp [.slice,.slice] (λ(a1:Sl)(q:Sl) w1 C0=>
cond (decide (((a1.n:Int):Int)≥(b.n:Int))) (
bnd (wi ((a1.n:Int)-(b.n:Int))) λn=>
bnd (wi ((a1.n:Int)-1)) λn1=>
ixa a1 n1 2 λa2=>
ldc (.slice) w1.drew (a2.add 0) λ(v:Sl)=>
ldc (.bool) w1.drew (a2.add 1) λ(v1:Bool)=>
bnd (wi ((b.n:Int)-1)) λn2=>
ixa b n2 2 λa3=>
ldc (.slice) w1.drew (a3.add 0) λ(v2:Sl)=>
ldc (.bool) w1.drew (a3.add 1) λ(v3:Bool)=>
(cl Pg F.aH [.agg #[v.v,.bool v1],.agg #[v2.v,.bool v3]] w1.drew [.agg [.slice,.bool],.agg [.slice,.bool]] λ(r:Sl)(r1:Bool)(r2:Sl)(r3:Bool) w2=>
(nwv w2 λw3=>
nwv w3 λw4=>
nwv w4 λw5=>
nwv w5 λw6=>
cl Pg F.aB [.agg #[r2.v,.bool r3]] w6 [.one .bool] λ(ok:Bool) w7=>
cond (!ok) (
R (.tuple #[.slice none 0 0,.bool false]) w7) (
nwb w7 [r.v,.bool r1] T.aj λb1 w8=>
cl Pg F.am [.slice (some ⟨b1,0,none⟩) 1 1,.int .i64 n] w8 [.one .slice] λ(s:Sl) w9=>
cl Pg F.aN [q.v,s.v] w9 [.one .slice] λ(s1:Sl) w10=>
cl Pg F.aE [b.v,.agg #[r.v,.bool r1]] w10 [.one .slice] λ(s2:Sl) w11=>
cl Pg F.am [s2.v,.int .i64 n] w11 [.one .slice] λ(s3:Sl) w12=>
cl Pg F.aM [a1.v,s3.v] w12 [.one .slice] λ(s4:Sl) w13=>
C0 s4 s1 w13))∧
(nwv w2 λw14=>
nwv w14 λw15=>
nwv w15 λw16=>
nwv w16 λw17=>
cl Pg F.aB [.agg #[r2.v,.bool r3]] w17 [.one .bool] λ(ok1:Bool) w18=>
cond (!ok1) (
R (.tuple #[.slice none 0 0,.bool false]) w18) (
nwb w18 [r.v,.bool r1] T.aj λb2 w19=>
cl Pg F.am [.slice (some ⟨b2,0,none⟩) 1 1,.int .i64 n] w19 [.one .slice] λ(s5:Sl) w20=>
cl Pg F.aN [q.v,s5.v] w20 [.one .slice] λ(s6:Sl) w21=>
cl Pg F.aE [b.v,.agg #[r.v,.bool r1]] w21 [.one .slice] λ(s7:Sl) w22=>
cl Pg F.am [s7.v,.int .i64 n] w22 [.one .slice] λ(s8:Sl) w23=>
cl Pg F.aM [a1.v,s8.v] w23 [.one .slice] λ(s9:Sl) w24=>
C0 s9 s6 w24)))∧
(nwv w1.drew λw25=>
hld w25 [(a3.add 0,v2.v),(a3.add 1,.bool v3),(a2.add 0,v.v),(a2.add 1,.bool v1)] <|
(cl Pg F.aH [.agg #[v.v,.bool v1],.agg #[v2.v,.bool v3]] w25 [.agg [.slice,.bool],.agg [.slice,.bool]] λ(r4:Sl)(r5:Bool)(r6:Sl)(r7:Bool) w26=>
nwv w26 λw27=>
nwv w27 λw28=>
nwv w28 λw29=>
cl Pg F.aB [.agg #[r6.v,.bool r7]] w29 [.one .bool] λ(ok2:Bool) w30=>
cond (!ok2) (
R (.tuple #[.slice none 0 0,.bool false]) w30) (
nwb w30 [r4.v,.bool r5] T.aj λb3 w31=>
cl Pg F.am [.slice (some ⟨b3,0,none⟩) 1 1,.int .i64 n] w31 [.one .slice] λ(s10:Sl) w32=>
cl Pg F.aN [q.v,s10.v] w32 [.one .slice] λ(s11:Sl) w33=>
cl Pg F.aE [b.v,.agg #[r4.v,.bool r5]] w33 [.one .slice] λ(s12:Sl) w34=>
cl Pg F.am [s12.v,.int .i64 n] w34 [.one .slice] λ(s13:Sl) w35=>
cl Pg F.aM [a1.v,s13.v] w35 [.one .slice] λ(s14:Sl) w36=>
C0 s14 s11 w36))∧
(nwv w25 λw37=>
hld w37 [(a3.add 0,v2.v),(a3.add 1,.bool v3),(a2.add 0,v.v),(a2.add 1,.bool v1)] <|
cl Pg F.aH [.agg #[v.v,.bool v1],.agg #[v2.v,.bool v3]] w37 [.agg [.slice,.bool],.agg [.slice,.bool]] λ(r8:Sl)(r9:Bool)(r10:Sl)(r11:Bool) w38=>
nwv w38 λw39=>
nwv w39 λw40=>
cl Pg F.aB [.agg #[r10.v,.bool r11]] w40 [.one .bool] λ(ok3:Bool) w41=>
cond (!ok3) (
R (.tuple #[.slice none 0 0,.bool false]) w41) (
nwb w41 [r8.v,.bool r9] T.aj λb4 w42=>
cl Pg F.am [.slice (some ⟨b4,0,none⟩) 1 1,.int .i64 n] w42 [.one .slice] λ(s15:Sl) w43=>
cl Pg F.aN [q.v,s15.v] w43 [.one .slice] λ(s16:Sl) w44=>
cl Pg F.aE [b.v,.agg #[r8.v,.bool r9]] w44 [.one .slice] λ(s17:Sl) w45=>
cl Pg F.am [s17.v,.int .i64 n] w45 [.one .slice] λ(s18:Sl) w46=>
cl Pg F.aM [a1.v,s18.v] w46 [.one .slice] λ(s19:Sl) w47=>
C0 s19 s16 w47)))∧
(nwv w1.drew λw48=>
hld w48 [(a3.add 0,v2.v),(a3.add 1,.bool v3),(a2.add 0,v.v),(a2.add 1,.bool v1)] <|
(cl Pg F.aH [.agg #[v.v,.bool v1],.agg #[v2.v,.bool v3]] w48 [.agg [.slice,.bool],.agg [.slice,.bool]] λ(r12:Sl)(r13:Bool)(r14:Sl)(r15:Bool) w49=>
nwv w49 λw50=>
nwv w50 λw51=>
nwv w51 λw52=>
cl Pg F.aB [.agg #[r14.v,.bool r15]] w52 [.one .bool] λ(ok4:Bool) w53=>
cond (!ok4) (
R (.tuple #[.slice none 0 0,.bool false]) w53) (
nwb w53 [r12.v,.bool r13] T.aj λb5 w54=>
cl Pg F.am [.slice (some ⟨b5,0,none⟩) 1 1,.int .i64 n] w54 [.one .slice] λ(s20:Sl) w55=>
cl Pg F.aN [q.v,s20.v] w55 [.one .slice] λ(s21:Sl) w56=>
cl Pg F.aE [b.v,.agg #[r12.v,.bool r13]] w56 [.one .slice] λ(s22:Sl) w57=>
cl Pg F.am [s22.v,.int .i64 n] w57 [.one .slice] λ(s23:Sl) w58=>
cl Pg F.aM [a1.v,s23.v] w58 [.one .slice] λ(s24:Sl) w59=>
C0 s24 s21 w59))∧
(nwv w48 λw60=>
hld w60 [(a3.add 0,v2.v),(a3.add 1,.bool v3),(a2.add 0,v.v),(a2.add 1,.bool v1)] <|
cl Pg F.aH [.agg #[v.v,.bool v1],.agg #[v2.v,.bool v3]] w60 [.agg [.slice,.bool],.agg [.slice,.bool]] λ(r16:Sl)(r17:Bool)(r18:Sl)(r19:Bool) w61=>
nwv w61 λw62=>
nwv w62 λw63=>
cl Pg F.aB [.agg #[r18.v,.bool r19]] w63 [.one .bool] λ(ok5:Bool) w64=>
cond (!ok5) (
R (.tuple #[.slice none 0 0,.bool false]) w64) (
nwb w64 [r16.v,.bool r17] T.aj λb6 w65=>
cl Pg F.am [.slice (some ⟨b6,0,none⟩) 1 1,.int .i64 n] w65 [.one .slice] λ(s25:Sl) w66=>
cl Pg F.aN [q.v,s25.v] w66 [.one .slice] λ(s26:Sl) w67=>
cl Pg F.aE [b.v,.agg #[r16.v,.bool r17]] w67 [.one .slice] λ(s27:Sl) w68=>
cl Pg F.am [s27.v,.int .i64 n] w68 [.one .slice] λ(s28:Sl) w69=>
cl Pg F.aM [a1.v,s28.v] w69 [.one .slice] λ(s29:Sl) w70=>
C0 s29 s26 w70)))) (
J0 a1 q w1)) a Sl.nil w) λ(a4:Sl)(q1:Sl) w71=>
R (.tuple #[q1.v,.bool (((a4.n:Int):Int) == 0)]) w71
theorem Ct.bE{K:KT [.one .slice,.one .bool]}(h:Sh.bE a b (Rt X [.one .slice,.one .bool] K w) w.here):Ct Pg F.bE [a.v,b.v] w X [.one .slice,.one .bool] K:=
 cod (Sh.bE a b) 56 [(8,56),(9,58)] [(56,2),(58,2)] [(2,0,[(0,.one .slice),(6,.one .slice)]),(3,2,[(0,.one .slice),(6,.one .slice)])] f38 h
def Sh.aU(a:Sl)(R:Value→TW→Prop)(w:TW):Prop:=
Jn [.int .i64] (λJ0=>
Lp [.int .i64] (λ(k:Int) w1 C0=>
Jn [.bool] (λJ1=>
cond (decide ((k:Int)>0)) (
bnd (wi (k-1)) λn=>
ixa a n 2 λa1=>
ldc (.slice) w1 (a1.add 0) λ(v:Sl)=>
ldc (.bool) w1 (a1.add 1) λ(v1:Bool)=>
cl Pg F.aB [.agg #[v.v,.bool v1]] w1 [.one .bool] λ(ok:Bool) w2=>
J1 ok w2) (
J1 false w1)) λ(x:Bool) w3=>
cond x (
bnd (wi (k-1)) λn1=>
C0 n1 w3) (
J0 k w3)) (a.n:Int) w) λ(k1:Int) w4=>
slc a 0 k1 2 λs=>
R (s.v) w4
theorem Ct.aU(h:Sh.aU a (Rt X [.one .slice] K w) w.here):Ct Pg F.aU [a.v] w X [.one .slice] K:=
 cod (Sh.aU a) 21 [] [] [(2,0,[(3,.one (.int .i64))]),(3,2,[(3,.one (.int .i64))]),(0,2,[(15,.one .bool)])] f43 h
def Sh.bI(a:Sl)(i:Int)(R:Value→TW→Prop)(w:TW):Prop:=
nwv w λw1=>
Jn [.bool,.slice,.bool] (λJ0=>
cond (decide ((i:Int)<0)) (
J0 true Sl.nil false w1) (
J0 (decide ((i:Int)≥(a.n:Int))) Sl.nil false w1)) λ(x:Bool)(_:Sl)(_:Bool) w2=>
cond x (
nwv w2 λw3=>
R (.agg #[.slice none 0 0,.bool false]) w3) (
ixa a i 2 λa1=>
ldc (.slice) w2 (a1.add 0) λ(v:Sl)=>
ldc (.bool) w2 (a1.add 1) λ(v1:Bool)=>
nwv w2 λw4=>
R (.agg #[v.v,.bool v1]) w4)
theorem Ct.bI{i:Int}{K:KT [.agg [.slice,.bool]]}(h:Sh.bI a i (Rt X [.agg [.slice,.bool]] K w) w.here):Ct Pg F.bI [a.v,.int .i64 i] w X [.agg [.slice,.bool]] K:=
 cod (Sh.bI a i) 18 [(4,18)] [(18,2)] [(0,1,[(12,.one .bool),(18,.one .slice),(19,.one .bool)])] f80 h
def Sh.am(a:Sl)(k:Int)(R:Value→TW→Prop)(w:TW):Prop:=
cond (((a.n:Int):Int) == 0) (
R (.slice none 0 0) w) (
mks w k k T.aj 32 [.slice none 0 0,.bool false] λs w1=>
apd w1 T.aj 2 32 s a λs1 w2=>
R (s1.v) w2)
theorem Ct.am{k:Int}(h:Sh.am a k (Rt X [.one .slice] K w) w.here):Ct Pg F.am [a.v,.int .i64 k] w X [.one .slice] K:=
 cod (Sh.am a k) 12 [] [] [] f81 h
end
end Go.Proofs.YtpbimnlggalnfaaGreatDoor.Zg
