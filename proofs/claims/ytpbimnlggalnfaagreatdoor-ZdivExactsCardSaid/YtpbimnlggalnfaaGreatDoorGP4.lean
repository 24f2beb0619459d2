/- A part of the proofs of this seat's laws. -/
import Derived.Test.YtpbimnlggalnfaaGreatDoorGC
set_option linter.unusedVariables false
set_option linter.unusedSimpArgs false
set_option linter.unnecessarySimpa false
namespace Go.Proofs.YtpbimnlggalnfaaGreatDoor.Zg
open Go.RowKit
section
set_option maxRecDepth 100000
open Go.Proofs.Tryz
def Sh.jS(t:HL I11)(R:Value→TW→Prop)(w:TW):Prop:=
nwv w λw1=>
cl Pg F.kD [.agg (aT I11 t).toArray] w1 [.one .ptr] λ(p:Option Addr) w2=>
nwb w2 [.pointer p] T.uW λb w3=>
R (.pointer (some ⟨b,0,none⟩)) w3
theorem Ct.jS{t:HL I11}{w:TW}{X:Nat→Prop}{K:KT [.one .ptr]}(h:Sh.jS t (Rt X [.one .ptr] K w) w.here):Ct Pg F.jS [.agg (aT I11 t).toArray] w X [.one .ptr] K:=
 cod (Sh.jS t) 7 [(1,7)] [(7,11)] [] f260 h
end
section
set_option maxRecDepth 100000
open Go.Proofs.Tryz
variable {w:TW} {X:Nat→Prop}
def Sh.cC(e0:Option Addr)(a:Sl)(b:Sl)(R:Value→TW→Prop)(w:TW):Prop:=
nck e0 λa1=>
ldc (.ptr) w a1 λ(v:Option Addr)=>
nck v λa2=>
bnd (wi ((a.n:Int)*(b.n:Int))) λn=>
cl Pg F.aO [.pointer (some a2),.int .i64 n] w [.one (.int .i64)] λ(_:Int) w1=>
bnd (wi ((a.n:Int)+(b.n:Int))) λn1=>
mks w1 n1 n1 T.ao 8 [.int .u64 0] λs w2=>
Jn [] (λJ0=>
Lp [.int .i64] (λ(x:Int) w3 C0=>
cond (decide ((x:Int)<(a.n:Int))) (
ixa a x 1 λa3=>
ldc (.int .u64) w3 a3 λ(v1:Int)=>
Jn [.int .u64] (λJ1=>
Lp [.int .u64,.int .i64] (λ(c:Int)(x1:Int) w4 C1=>
cond (decide ((x1:Int)<(b.n:Int))) (
ixa b x1 1 λa4=>
ldc (.int .u64) w4 a4 λ(v2:Int)=>
cl Pg F.aJ [.int .u64 v1,.int .u64 v2] w4 [.one (.int .u64),.one (.int .u64)] λ(r1:Int)(r2:Int) w5=>
gf r2 c 0 λs1 c1=>
bnd (wu (r1+c1)) λn2=>
bnd (wi (x+x1)) λn3=>
bnd (wi (x+x1)) λn4=>
ixa s n4 1 λa5=>
ldc (.int .u64) w5 a5 λ(v3:Int)=>
gf v3 s1 0 λs2 c2=>
ixa s n3 1 λa6=>
stc w5 a6 (.int .u64 s2) λw6=>
bnd (wu (n2+c2)) λn5=>
bnd (wi (x1+1)) λn6=>
C1 n5 n6 w6) (
J1 c w4)) 0 0 w3) λ(c3:Int) w7=>
bnd (wi (x+(b.n:Int))) λn7=>
ixa s n7 1 λa7=>
stc w7 a7 (.int .u64 c3) λw8=>
bnd (wi (x+1)) λn8=>
C0 n8 w8) (
J0 w3)) 0 w2) fun  w9=>
cl Pg F.aW [s.v] w9 [.one .slice] λ(s3:Sl) w10=>
R (s3.v) w10
theorem Ct.cC{e0:Option Addr}{a:Sl}{b:Sl}{K:KT [.one .slice]}(h:Sh.cC e0 a b (Rt X [.one .slice] K w) w.here):Ct Pg F.cC [.pointer e0,a.v,b.v] w X [.one .slice] K:=
 cod (Sh.cC e0 a b) 94 [] [] [(2,0,[]),(3,4,[(37,.one (.int .i64))]),(2,2,[(10,.one (.int .u64))]),(3,8,[(10,.one (.int .u64)),(44,.one (.int .i64))])] f155 h
def Sh.iA(t:HL I11)(R:Value→TW→Prop)(w:TW):Prop:=
nwv w λw1=>
cl Pg F.i8 [.agg (aT I11 t).toArray] w1 [.one .ptr] λ(p:Option Addr) w2=>
nwb w2 [.pointer p] T.oz λb w3=>
R (.pointer (some ⟨b,0,none⟩)) w3
theorem Ct.iA{t:HL I11}{K:KT [.one .ptr]}(h:Sh.iA t (Rt X [.one .ptr] K w) w.here):Ct Pg F.iA [.agg (aT I11 t).toArray] w X [.one .ptr] K:=
 cod (Sh.iA t) 7 [(1,7)] [(7,11)] [] f282 h
end
section
set_option maxRecDepth 100000
open Go.Proofs.Tryz
variable {t:HL I11} {m n:Int} {w:TW} {X:Nat→Prop} {K:KT [.one (.int .i64)]}
def Sh.dM(t:Option Addr)(n:Int)(m:Int)(R:Value→TW→Prop)(w:TW):Prop:=
nck t λa=>
ldc (.int .i64) w ((a.add 3).add 0) λ(v:Int)=>
ldc (.int .i64) w ((a.add 3).add 1) λ(v1:Int)=>
ldc (.int .i64) w ((a.add 3).add 2) λ(v2:Int)=>
ldc (.int .i64) w ((a.add 3).add 3) λ(v3:Int)=>
ldc (.int .i64) w ((a.add 3).add 4) λ(v4:Int)=>
ldc (.int .i64) w ((a.add 3).add 5) λ(v5:Int)=>
ldc (.int .i64) w ((a.add 3).add 6) λ(v6:Int)=>
ldc (.int .i64) w ((a.add 3).add 7) λ(v7:Int)=>
ldc (.int .i64) w ((a.add 3).add 8) λ(v8:Int)=>
ldc (.int .i64) w ((a.add 3).add 9) λ(v9:Int)=>
ldc (.int .i64) w ((a.add 3).add 10) λ(v10:Int)=>
cl Pg F.gy [.agg #[.int .i64 v,.int .i64 v1,.int .i64 v2,.int .i64 v3,.int .i64 v4,.int .i64 v5,.int .i64 v6,.int .i64 v7,.int .i64 v8,.int .i64 v9,.int .i64 v10],.int .i64 n,.int .i64 m] w [.one (.int .i64)] λ(r:Int) w1=>
R (.int .i64 r) w1
theorem Ct.dM{t:Option Addr}(h:Sh.dM t n m (Rt X [.one (.int .i64)] K w) w.here):Ct Pg F.dM [.pointer t,.int .i64 n,.int .i64 m] w X [.one (.int .i64)] K:=
 cod (Sh.dM t n m) 14 [] [] [] f154 h
def Sh.gy(t:HL I11)(n:Int)(m:Int)(R:Value→TW→Prop)(w:TW):Prop:=
nwv w λw1=>
Jn [.bool,.int .i64,.int .i64,.int .i64,.int .i64,.int .i64,.int .i64,.int .i64,.int .i64,.int .i64,.int .i64,.int .i64] (λJ0=>
cl Pg F.iG [.int .i64 n] w1 [.one .bool] λ(ok:Bool) w2=>
cond (!ok) (
J0 true t.1 t.2.1 t.2.2.1 t.2.2.2.1 t.2.2.2.2.1 t.2.2.2.2.2.1 t.2.2.2.2.2.2.1 t.2.2.2.2.2.2.2.1 t.2.2.2.2.2.2.2.2.1 t.2.2.2.2.2.2.2.2.2.1 t.2.2.2.2.2.2.2.2.2.2.1 w2) (
cl Pg F.iG [.int .i64 m] w2 [.one .bool] λ(ok1:Bool) w3=>
J0 (!ok1) t.1 t.2.1 t.2.2.1 t.2.2.2.1 t.2.2.2.2.1 t.2.2.2.2.2.1 t.2.2.2.2.2.2.1 t.2.2.2.2.2.2.2.1 t.2.2.2.2.2.2.2.2.1 t.2.2.2.2.2.2.2.2.2.1 t.2.2.2.2.2.2.2.2.2.2.1 w3)) λ(x:Bool)(t1:Int)(t2:Int)(t3:Int)(t4:Int)(t5:Int)(t6:Int)(t7:Int)(t8:Int)(t9:Int)(t10:Int)(t11:Int) w4=>
cond x (
R (.int .i64 0) w4) (
cl Pg F.fM [.agg #[.int .i64 t1,.int .i64 t2,.int .i64 t3,.int .i64 t4,.int .i64 t5,.int .i64 t6,.int .i64 t7,.int .i64 t8,.int .i64 t9,.int .i64 t10,.int .i64 t11]] w4 [.agg I11] λ(r:Int)(r1:Int)(r2:Int)(r3:Int)(r4:Int)(r5:Int)(r6:Int)(r7:Int)(r8:Int)(r9:Int)(r10:Int) w5=>
bnd (if (m:Int)>n then m else n) λn1=>
bnd (if (m:Int)<n then m else n) λn2=>
cl Pg F.gx [.agg #[.int .i64 r,.int .i64 r1,.int .i64 r2,.int .i64 r3,.int .i64 r4,.int .i64 r5,.int .i64 r6,.int .i64 r7,.int .i64 r8,.int .i64 r9,.int .i64 r10],.int .i64 n1,.int .i64 n2] w5 [.one (.int .i64)] λ(r11:Int) w6=>
R (.int .i64 r11) w6)
theorem Ct.gy(h:Sh.gy t n m (Rt X [.one (.int .i64)] K w) w.here):Ct Pg F.gy [.agg (aT I11 t).toArray,.int .i64 n,.int .i64 m] w X [.one (.int .i64)] K:=
 cod (Sh.gy t n m) 24 [(3,24)] [(24,11)] [(0,1,[(14,.one .bool),(24,.one (.int .i64)),(25,.one (.int .i64)),(26,.one (.int .i64)),(27,.one (.int .i64)),(28,.one (.int .i64)),(29,.one (.int .i64)),(30,.one (.int .i64)),(31,.one (.int .i64)),(32,.one (.int .i64)),(33,.one (.int .i64)),(34,.one (.int .i64))])] f190 h
def Sh.iG(n:Int)(R:Value→TW→Prop)(w:TW):Prop:=
Jn [.bool] (λJ0=>
cond (decide ((n:Int)≥0)) (
J0 (decide ((n:Int)≤16384)) w) (
J0 false w)) λ(x:Bool) w1=>
R (.bool x) w1
theorem Ct.iG{K:KT [.one .bool]}(h:Sh.iG n (Rt X [.one .bool] K w) w.here):Ct Pg F.iG [.int .i64 n] w X [.one .bool] K:=
 cod (Sh.iG n) 9 [] [] [(0,1,[(2,.one .bool)])] f223 h
def Sh.gx(t:HL I11)(n:Int)(m:Int)(R:Value→TW→Prop)(w:TW):Prop:=
nwv w λw1=>
bnd (wi (n+2)) λn1=>
eI .i64 n1 3 λn2=>
cond ((m:Int) == 0) (
R (.int .i64 0) w1) (
cond (decide ((m:Int)<t.1)) (
R (.int .i64 1) w1) (
bnd (wi (2*m)) λn3=>
bnd (wi (n+1)) λn4=>
cond (decide ((n3:Int)≤n4)) (
R (.int .i64 2) w1) (
cond (decide ((m:Int)<t.2.1)) (
R (.int .i64 3) w1) (
bnd (wi (n+m)) λn5=>
cond (decide ((n5:Int)≥t.2.2.1)) (
R (.int .i64 5) w1) (
bnd (wi (2*n2)) λn6=>
cond (decide ((m:Int)>n6)) (
R (.int .i64 4) w1) (
R (.int .i64 3) w1))))))
theorem Ct.gx(h:Sh.gx t n m (Rt X [.one (.int .i64)] K w) w.here):Ct Pg F.gx [.agg (aT I11 t).toArray,.int .i64 n,.int .i64 m] w X [.one (.int .i64)] K:=
 cod (Sh.gx t n m) 42 [(3,42)] [(42,11)] [] f224 h
def Sh.fM(t:HL I11)(R:Value→TW→Prop)(w:TW):Prop:=
nwv w λw1=>
nwv w1 λw2=>
cl Pg F.bk [.int .i64 t.1,.int .i64 4,.int .i64 64] w2.drew [.one (.int .i64)] λ(r:Int) w3=>
cl Pg F.bk [.int .i64 t.2.1,.int .i64 12,.int .i64 8192] w3 [.one (.int .i64)] λ(r1:Int) w4=>
cl Pg F.bk [.int .i64 t.2.2.1,.int .i64 64,.int .i64 16384] w4 [.one (.int .i64)] λ(r2:Int) w5=>
cl Pg F.bk [.int .i64 t.2.2.2.1,.int .i64 4,.int .i64 1024] w5 [.one (.int .i64)] λ(r3:Int) w6=>
cl Pg F.bk [.int .i64 t.2.2.2.2.1,.int .i64 4,.int .i64 4096] w6 [.one (.int .i64)] λ(r4:Int) w7=>
cl Pg F.bk [.int .i64 t.2.2.2.2.2.1,.int .i64 2,.int .i64 1024] w7 [.one (.int .i64)] λ(r5:Int) w8=>
cl Pg F.bk [.int .i64 t.2.2.2.2.2.2.1,.int .i64 2,.int .i64 1024] w8 [.one (.int .i64)] λ(r6:Int) w9=>
cl Pg F.bk [.int .i64 t.2.2.2.2.2.2.2.1,.int .i64 4,.int .i64 256] w9 [.one (.int .i64)] λ(r7:Int) w10=>
cl Pg F.bk [.int .i64 t.2.2.2.2.2.2.2.2.1,.int .i64 4,.int .i64 1024] w10 [.one (.int .i64)] λ(r8:Int) w11=>
cl Pg F.bk [.int .i64 t.2.2.2.2.2.2.2.2.2.1,.int .i64 2,.int .i64 1024] w11 [.one (.int .i64)] λ(r9:Int) w12=>
cl Pg F.bk [.int .i64 t.2.2.2.2.2.2.2.2.2.2.1,.int .i64 2,.int .i64 256] w12 [.one (.int .i64)] λ(r10:Int) w13=>
nwv w13 λw14=>
R (.agg #[.int .i64 r,.int .i64 r1,.int .i64 r2,.int .i64 r3,.int .i64 r4,.int .i64 r5,.int .i64 r6,.int .i64 r7,.int .i64 r8,.int .i64 r9,.int .i64 r10]) w14
theorem Ct.fM{K:KT [.agg I11]}(h:Sh.fM t (Rt X [.agg I11] K w) w.here):Ct Pg F.fM [.agg (aT I11 t).toArray] w X [.agg I11] K:=
 cod (Sh.fM t) 37 [(1,37),(2,48)] [(37,11),(48,11)] [] f225 h
def Sh.bk(n:Int)(least:Int)(most:Int)(R:Value→TW→Prop)(w:TW):Prop:=
bnd (if (most:Int)<n then most else n) λn1=>
bnd (if (n1:Int)>least then n1 else least) λn2=>
R (.int .i64 n2) w
theorem Ct.bk{least:Int}{most:Int}(h:Sh.bk n least most (Rt X [.one (.int .i64)] K w) w.here):Ct Pg F.bk [.int .i64 n,.int .i64 least,.int .i64 most] w X [.one (.int .i64)] K:=
 cod (Sh.bk n least most) 12 [] [] [] f250 h
def Sh.i8(t:HL I11)(R:Value→TW→Prop)(w:TW):Prop:=
nwv w λw1=>
cl Pg F.fM [.agg (aT I11 t).toArray] w1 [.agg I11] λ(r:Int)(r1:Int)(r2:Int)(r3:Int)(r4:Int)(r5:Int)(r6:Int)(r7:Int)(r8:Int)(r9:Int)(r10:Int) w2=>
nwb w2 [.int .i64 0,.int .i64 0,.int .i64 0,.int .i64 r,.int .i64 r1,.int .i64 r2,.int .i64 r3,.int .i64 r4,.int .i64 r5,.int .i64 r6,.int .i64 r7,.int .i64 r8,.int .i64 r9,.int .i64 r10] T.dN λb w3=>
R (.pointer (some ⟨b,0,none⟩)) w3
theorem Ct.i8{K:KT [.one .ptr]}(h:Sh.i8 t (Rt X [.one .ptr] K w) w.here):Ct Pg F.i8 [.agg (aT I11 t).toArray] w X [.one .ptr] K:=
 cod (Sh.i8 t) 7 [(1,7)] [(7,11)] [] f283 h
end
section
set_option maxRecDepth 100000
open Go.Proofs.Tryz
variable {a b:Sl} {w:TW} {X:Nat→Prop} {K:KT [.one .slice]} {k:Int}
def Sh.dL(e0:Option Addr)(a:Sl)(b:Sl)(inner:Value)(R:Value→TW→Prop)(w:TW):Prop:=
Jn [.slice,.slice] (λJ0=>
cond (decide (((a.n:Int):Int)<(b.n:Int))) (
J0 b a w) (
J0 a b w)) λ(a1:Sl)(b1:Sl) w1=>
bnd (wi ((a1.n:Int)+2)) λn=>
eI .i64 n 3 λn1=>
bnd (wi (2*n1)) λn2=>
cond (decide (((b1.n:Int):Int)≤n2)) (
R (.tuple #[.slice none 0 0,.bool false]) w1) (
nck e0 λa2=>
ldc (.ptr) w1 a2 λ(v:Option Addr)=>
nck v λa3=>
ldc (.ptr) w1 a3 λ(v1:Option Addr)=>
nck v1 λa4=>
ldc (.ptr) w1 a4 λ(v2:Option Addr)=>
nck v2 λa5=>
cl Pg F.bM [.pointer (some a5)] w1 [.one (.int .i64)] λ(_:Int) w2=>
cl Pg F.fL [a1.v,.int .i64 n1] w2 [.agg [.slice,.bool],.agg [.slice,.bool],.agg [.slice,.bool],.agg [.slice,.bool],.agg [.slice,.bool]] λ(r1:Sl)(_:Bool)(r3:Sl)(_:Bool)(r5:Sl)(r6:Bool)(r7:Sl)(_:Bool)(r9:Sl)(_:Bool) w3=>
nwv w3 λw4=>
nwv w4 λw5=>
nwv w5 λw6=>
nwv w6 λw7=>
nwv w7 λw8=>
nwv w8 λw9=>
nwv w9 λw10=>
nwv w10 λw11=>
nwv w11 λw12=>
nwv w12 λw13=>
cl Pg F.fL [b1.v,.int .i64 n1] w13 [.agg [.slice,.bool],.agg [.slice,.bool],.agg [.slice,.bool],.agg [.slice,.bool],.agg [.slice,.bool]] λ(r11:Sl)(_:Bool)(r13:Sl)(_:Bool)(r15:Sl)(r16:Bool)(r17:Sl)(_:Bool)(r19:Sl)(_:Bool) w14=>
nwv w14 λw15=>
nwv w15 λw16=>
nwv w16 λw17=>
nwv w17 λw18=>
nwv w18 λw19=>
nwv w19 λw20=>
nwv w20 λw21=>
nwv w21 λw22=>
nwv w22 λw23=>
nwv w23 λw24=>
cl Pg F.ct [r1.v,.int .i64 n1] w24.drew [.one .slice] λ(s:Sl) w25=>
cl Pg F.ct [r11.v,.int .i64 n1] w25 [.one .slice] λ(s1:Sl) w26=>
clv Pg inner [s.v,s1.v] w26 [.one .slice] λ(s2:Sl) w27=>
bnd (wi (n1+1)) λn3=>
bnd (wi (n1+1)) λn4=>
cl Pg F.ct [r3.v,.int .i64 n3] w27.drew [.one .slice] λ(s3:Sl) w28=>
cl Pg F.ct [r13.v,.int .i64 n4] w28 [.one .slice] λ(s4:Sl) w29=>
clv Pg inner [s3.v,s4.v] w29 [.one .slice] λ(s5:Sl) w30=>
bnd (wi (n1+1)) λn5=>
bnd (wi (n1+1)) λn6=>
cl Pg F.ct [r5.v,.int .i64 n5] w30.drew [.one .slice] λ(s6:Sl) w31=>
cl Pg F.ct [r15.v,.int .i64 n6] w31 [.one .slice] λ(s7:Sl) w32=>
clv Pg inner [s6.v,s7.v] w32 [.one .slice] λ(s8:Sl) w33=>
bnd (wi (n1+1)) λn7=>
bnd (wi (n1+1)) λn8=>
cl Pg F.ct [r7.v,.int .i64 n7] w33.drew [.one .slice] λ(s9:Sl) w34=>
cl Pg F.ct [r17.v,.int .i64 n8] w34 [.one .slice] λ(s10:Sl) w35=>
clv Pg inner [s9.v,s10.v] w35 [.one .slice] λ(s11:Sl) w36=>
bnd (wi (2*n1)) λn9=>
bnd (wi ((a1.n:Int)-n9)) λn10=>
bnd (wi (2*n1)) λn11=>
bnd (wi ((b1.n:Int)-n11)) λn12=>
cl Pg F.ct [r9.v,.int .i64 n10] w36.drew [.one .slice] λ(s12:Sl) w37=>
cl Pg F.ct [r19.v,.int .i64 n12] w37 [.one .slice] λ(s13:Sl) w38=>
clv Pg inner [s12.v,s13.v] w38 [.one .slice] λ(s14:Sl) w39=>
nck e0 λa6=>
ldc (.ptr) w39 a6 λ(v3:Option Addr)=>
nck v3 λa7=>
ldc (.ptr) w39 a7 λ(v4:Option Addr)=>
nck v4 λa8=>
ldc (.ptr) w39 a8 λ(v5:Option Addr)=>
nck v5 λa9=>
cl Pg F.bL [.pointer (some a9)] w39 [.one (.int .i64)] λ(_:Int) w40=>
cl Pg F.gw [.int .i64 n1,s2.v,s5.v,s8.v,s11.v,s14.v,.bool (!(r6 == r16))] w40 [.one .slice] λ(s15:Sl) w41=>
R (.tuple #[s15.v,.bool true]) w41)
theorem Ct.dL{e0:Option Addr}{inner:Value}{K:KT [.one .slice,.one .bool]}(h:Sh.dL e0 a b inner (Rt X [.one .slice,.one .bool] K w) w.here):Ct Pg F.dL [.pointer e0,a.v,b.v,inner] w X [.one .slice,.one .bool] K:=
 cod (Sh.dL e0 a b inner) 164 [(13,164),(14,166),(15,168),(16,170),(17,172),(18,174),(19,176),(20,178),(21,180),(22,182)] [(164,2),(166,2),(168,2),(170,2),(172,2),(174,2),(176,2),(178,2),(180,2),(182,2)] [(1,2,[(1,.one .slice),(2,.one .slice)])] f188 h
def Sh.fL(a:Sl)(k:Int)(R:Value→TW→Prop)(w:TW):Prop:=
nwv w λw1=>
nwv w1 λw2=>
nwv w2 λw3=>
nwv w3 λw4=>
nwv w4 λw5=>
bnd (if (16384:Int)<k then 16384 else k) λn=>
bnd (if (n:Int)>1 then n else 1) λn1=>
cl Pg F.aW [a.v] w5 [.one .slice] λ(s:Sl) w6=>
cl Pg F.hF [s.v,.int .i64 0,.int .i64 n1] w6 [.one .slice] λ(s1:Sl) w7=>
bnd (wi (2*n1)) λn2=>
cl Pg F.hF [s.v,.int .i64 n1,.int .i64 n2] w7 [.one .slice] λ(s2:Sl) w8=>
bnd (wi (2*n1)) λn3=>
cl Pg F.hF [s.v,.int .i64 n3,.int .i64 (s.n:Int)] w8 [.one .slice] λ(s3:Sl) w9=>
cl Pg F.ek [s1.v,s3.v] w9 [.one .slice] λ(s4:Sl) w10=>
cl Pg F.aW [s1.v] w10 [.one .slice] λ(s5:Sl) w11=>
nwv w11 λw12=>
cl Pg F.ek [s4.v,s2.v] w12 [.one .slice] λ(s6:Sl) w13=>
nwv w13 λw14=>
cl Pg F.i7 [s4.v,s2.v] w14 [.agg [.slice,.bool]] λ(r:Sl)(r1:Bool) w15=>
nwv w15 λw16=>
cl Pg F.dT [s2.v,.int .i64 1] w16 [.one .slice] λ(s7:Sl) w17=>
cl Pg F.dT [s3.v,.int .i64 2] w17 [.one .slice] λ(s8:Sl) w18=>
nwb w18 [s1.v,s7.v,s8.v] T.go λb w19=>
cl Pg F.jm [.slice (some ⟨b,0,none⟩) 3 3] w19 [.one .slice] λ(s9:Sl) w20=>
nwv w20 λw21=>
cl Pg F.aW [s3.v] w21 [.one .slice] λ(s10:Sl) w22=>
nwv w22 λw23=>
nwv w23.drew λw24=>
nwv w24 λw25=>
nwv w25 λw26=>
nwv w26 λw27=>
nwv w27 λw28=>
R (.tuple #[.agg #[s5.v,.bool false],.agg #[s6.v,.bool false],.agg #[r.v,.bool r1],.agg #[s9.v,.bool false],.agg #[s10.v,.bool false]]) w28
theorem Ct.fL{K:KT [.agg [.slice,.bool],.agg [.slice,.bool],.agg [.slice,.bool],.agg [.slice,.bool],.agg [.slice,.bool]]}(h:Sh.fL a k (Rt X [.agg [.slice,.bool],.agg [.slice,.bool],.agg [.slice,.bool],.agg [.slice,.bool],.agg [.slice,.bool]] K w) w.here):Ct Pg F.fL [a.v,.int .i64 k] w X [.agg [.slice,.bool],.agg [.slice,.bool],.agg [.slice,.bool],.agg [.slice,.bool],.agg [.slice,.bool]] K:=
 cod (Sh.fL a k) 61 [(4,61),(5,63),(6,65),(7,67),(8,69)] [(61,2),(63,2),(65,2),(67,2),(69,2)] [] f219 h
def Sh.ct(a:Sl)(n:Int)(R:Value→TW→Prop)(w:TW):Prop:=
mks w n n T.ao 8 [.int .u64 0] λs w1=>
cl Pg F.aS [a.v] w1 [.one (.int .i64)] λ(r:Int) w2=>
slc a 0 r 1 λs1=>
cpy w2 T.ao s s1 λ_ w3=>
R (s.v) w3
theorem Ct.ct{n:Int}(h:Sh.ct a n (Rt X [.one .slice] K w) w.here):Ct Pg F.ct [a.v,.int .i64 n] w X [.one .slice] K:=
 cod (Sh.ct a n) 15 [] [] [] f220 h
def Sh.gw(k:Int)(r0:Sl)(r1:Sl)(rm:Sl)(r2:Sl)(inf:Sl)(neg:Bool)(R:Value→TW→Prop)(w:TW):Prop:=
cl Pg F.ek [r1.v,rm.v] w [.one .slice] λ(s:Sl) w1=>
cl Pg F.i6 [r1.v,rm.v] w1 [.one .slice] λ(s1:Sl) w2=>
Jn [.slice,.slice] (λJ0=>
cond neg (
J0 s1 s w2) (
J0 s s1 w2)) λ(even:Sl)(odd:Sl) w3=>
cl Pg F.eR [even.v,.int .i64 1] w3 [.one .slice] λ(s2:Sl) w4=>
cl Pg F.eR [odd.v,.int .i64 1] w4 [.one .slice] λ(s3:Sl) w5=>
nwb w5 [r0.v,inf.v] T.go λb w6=>
cl Pg F.ik [s2.v,.slice (some ⟨b,0,none⟩) 2 2] w6 [.one .slice] λ(s4:Sl) w7=>
cl Pg F.dT [s4.v,.int .i64 2] w7 [.one .slice] λ(s5:Sl) w8=>
cl Pg F.dT [inf.v,.int .i64 4] w8 [.one .slice] λ(s6:Sl) w9=>
nwb w9 [r0.v,s5.v,s6.v] T.go λb1 w10=>
cl Pg F.ik [r2.v,.slice (some ⟨b1,0,none⟩) 3 3] w10 [.one .slice] λ(s7:Sl) w11=>
cl Pg F.eR [s7.v,.int .i64 1] w11 [.one .slice] λ(s8:Sl) w12=>
nwb w12 [s3.v] T.go λb2 w13=>
cl Pg F.ik [s8.v,.slice (some ⟨b2,0,none⟩) 1 1] w13 [.one .slice] λ(s9:Sl) w14=>
cl Pg F.iw [s9.v] w14 [.one .slice,.one .bool] λ(s10:Sl)(_:Bool) w15=>
nwb w15 [s10.v] T.go λb3 w16=>
cl Pg F.ik [s3.v,.slice (some ⟨b3,0,none⟩) 1 1] w16 [.one .slice] λ(s11:Sl) w17=>
nwb w17 [r0.v,s11.v,s4.v,s10.v,inf.v] T.go λb4 w18=>
cl Pg F.fY [.int .i64 k,.slice (some ⟨b4,0,none⟩) 5 5] w18 [.one .slice] λ(s12:Sl) w19=>
R (s12.v) w19
theorem Ct.gw{r0:Sl}{r1:Sl}{rm:Sl}{r2:Sl}{inf:Sl}{neg:Bool}(h:Sh.gw k r0 r1 rm r2 inf neg (Rt X [.one .slice] K w) w.here):Ct Pg F.gw [.int .i64 k,r0.v,r1.v,rm.v,r2.v,inf.v,.bool neg] w X [.one .slice] K:=
 cod (Sh.gw k r0 r1 rm r2 inf neg) 69 [] [] [(1,3,[(15,.one .slice),(16,.one .slice)])] f221 h
def Sh.hF(a:Sl)(from0:Int)(to:Int)(R:Value→TW→Prop)(w:TW):Prop:=
cond (decide ((from0:Int)≥(a.n:Int))) (
R (.slice none 0 0) w) (
bnd (if ((a.n:Int):Int)<to then (a.n:Int) else to) λn=>
slc a from0 n 1 λs=>
R (s.v) w)
theorem Ct.hF{from0:Int}{to:Int}(h:Sh.hF a from0 to (Rt X [.one .slice] K w) w.here):Ct Pg F.hF [a.v,.int .i64 from0,.int .i64 to] w X [.one .slice] K:=
 cod (Sh.hF a from0 to) 18 [] [] [] f244 h
def Sh.i7(a:Sl)(b:Sl)(R:Value→TW→Prop)(w:TW):Prop:=
nwv w λw1=>
cl Pg F.dw [a.v,b.v] w1 [.one .slice,.one .bool] λ(s:Sl)(ok:Bool) w2=>
cond ok (
nwv w2 λw3=>
R (.agg #[s.v,.bool false]) w3) (
cl Pg F.dw [b.v,a.v] w2 [.one .slice,.one .bool] λ(s1:Sl)(_:Bool) w4=>
nwv w4 λw5=>
R (.agg #[s1.v,.bool true]) w5)
theorem Ct.i7{K:KT [.agg [.slice,.bool]]}(h:Sh.i7 a b (Rt X [.agg [.slice,.bool]] K w) w.here):Ct Pg F.i7 [a.v,b.v] w X [.agg [.slice,.bool]] K:=
 cod (Sh.i7 a b) 26 [(4,26)] [(26,2)] [] f245 h
def Sh.i6(a:Sl)(b:Sl)(R:Value→TW→Prop)(w:TW):Prop:=
cl Pg F.dw [a.v,b.v] w [.one .slice,.one .bool] λ(s:Sl)(_:Bool) w1=>
R (s.v) w1
theorem Ct.i6(h:Sh.i6 a b (Rt X [.one .slice] K w) w.here):Ct Pg F.i6 [a.v,b.v] w X [.one .slice] K:=
 cod (Sh.i6 a b) 14 [] [] [] f247 h
def Sh.ik(a:Sl)(l:Sl)(R:Value→TW→Prop)(w:TW):Prop:=
cl Pg F.jm [l.v] w [.one .slice] λ(s:Sl) w1=>
cl Pg F.dw [a.v,s.v] w1 [.one .slice,.one .bool] λ(s1:Sl)(_:Bool) w2=>
R (s1.v) w2
theorem Ct.ik{l:Sl}(h:Sh.ik a l (Rt X [.one .slice] K w) w.here):Ct Pg F.ik [a.v,l.v] w X [.one .slice] K:=
 cod (Sh.ik a l) 15 [] [] [] f248 h
def Sh.iw(a:Sl)(R:Value→TW→Prop)(w:TW):Prop:=
cl Pg F.aW [a.v] w [.one .slice] λ(s:Sl) w1=>
Jn [.int .u64] (λJ0=>
Lp [.int .u64,.int .i64] (λ(c:Int)(x:Int) w2 C0=>
cond (decide ((x:Int)<(s.n:Int))) (
ixa s x 1 λa1=>
ldc (.int .u64) w2 a1 λ(v:Int)=>
ka v c 0 λs1 c1=>
bnd (wu (s1*12297829382473034411)) λn=>
ixa s x 1 λa2=>
stc w2 a2 (.int .u64 n) λw3=>
cl Pg F.aJ [.int .u64 n,.int .u64 3] w3 [.one (.int .u64),.one (.int .u64)] λ(r:Int)(_:Int) w4=>
bnd (wu (r+c1)) λn1=>
bnd (wi (x+1)) λn2=>
C0 n1 n2 w4) (
J0 c w2)) 0 0 w1) λ(c2:Int) w5=>
cond ((c2:Int) != 0) (
R (.tuple #[.slice none 0 0,.bool false]) w5) (
cl Pg F.aW [s.v] w5 [.one .slice] λ(s2:Sl) w6=>
R (.tuple #[s2.v,.bool true]) w6)
theorem Ct.iw{K:KT [.one .slice,.one .bool]}(h:Sh.iw a (Rt X [.one .slice,.one .bool] K w) w.here):Ct Pg F.iw [a.v] w X [.one .slice,.one .bool] K:=
 cod (Sh.iw a) 46 [] [] [(2,0,[(4,.one (.int .u64))]),(3,4,[(4,.one (.int .u64)),(16,.one (.int .i64))])] f249 h
def Sh.jh(t:HL I11)(R:Value→TW→Prop)(w:TW):Prop:=
nwv w λw1=>
cl Pg F.jD [.agg (aT I11 t).toArray] w1 [.one .ptr] λ(p:Option Addr) w2=>
nwb w2 [.pointer p] T.pN λb w3=>
R (.pointer (some ⟨b,0,none⟩)) w3
theorem Ct.jh{t:HL I11}{K:KT [.one .ptr]}(h:Sh.jh t (Rt X [.one .ptr] K w) w.here):Ct Pg F.jh [.agg (aT I11 t).toArray] w X [.one .ptr] K:=
 cod (Sh.jh t) 7 [(1,7)] [(7,11)] [] f280 h
end
section
set_option maxRecDepth 100000
open Go.Proofs.Tryz
variable {a0 a1 d0 d1:Int} {w:TW} {X:Nat→Prop} {K:KT [.one (.int .u64),.one .bool]}
def Sh.fx(d1:Int)(d0:Int)(R:Value→TW→Prop)(w:TW):Prop:=
cl Pg F.fS [.int .u64 d1] w [.one (.int .u64),.one .bool] λ(r:Int)(ok:Bool) w1=>
cond (!ok) (
R (.tuple #[.int .u64 0,.bool false]) w1) (
bnd (wu (d1*r)) λn=>
bnd (wu (n+d0)) λn1=>
Jn [.int .u64,.int .u64] (λJ0=>
cond (decide ((n1:Int)<d0)) (
bnd (wu (r-1)) λn2=>
Jn [.int .u64,.int .u64] (λJ1=>
cond (decide ((n1:Int)≥d1)) (
bnd (wu (n2-1)) λn3=>
bnd (wu (n1-d1)) λn4=>
J1 n3 n4 w1) (
J1 n2 n1 w1)) λ(v:Int)(p:Int) w2=>
bnd (wu (p-d1)) λn5=>
J0 v n5 w2) (
J0 r n1 w1)) λ(v1:Int)(p1:Int) w3=>
cl Pg F.aJ [.int .u64 v1,.int .u64 d0] w3 [.one (.int .u64),.one (.int .u64)] λ(r1:Int)(r2:Int) w4=>
bnd (wu (p1+r1)) λn6=>
Jn [.int .u64] (λJ2=>
cond (decide ((n6:Int)<r1)) (
bnd (wu (v1-1)) λn7=>
Jn [.bool] (λJ3=>
cond (decide ((n6:Int)>d1)) (
J3 true w4) (
cond ((n6:Int) == d1) (
J3 (decide ((r2:Int)≥d0)) w4) (
J3 false w4))) λ(x:Bool) w5=>
Jn [.int .u64] (λJ4=>
cond x (
bnd (wu (n7-1)) λn8=>
J4 n8 w5) (
J4 n7 w5)) λ(v2:Int) w6=>
J2 v2 w6) (
J2 v1 w4)) λ(v3:Int) w7=>
R (.tuple #[.int .u64 v3,.bool true]) w7)
theorem Ct.fx(h:Sh.fx d1 d0 (Rt X [.one (.int .u64),.one .bool] K w) w.here):Ct Pg F.fx [.int .u64 d1,.int .u64 d0] w X [.one (.int .u64),.one .bool] K:=
 cod (Sh.fx d1 d0) 69 [] [] [(1,6,[(6,.one (.int .u64)),(8,.one (.int .u64))]),(1,8,[(6,.one (.int .u64)),(8,.one (.int .u64))]),(1,14,[(6,.one (.int .u64))]),(0,15,[(65,.one .bool)]),(1,16,[(6,.one (.int .u64))])] f159 h
def Sh.fS(d:Int)(R:Value→TW→Prop)(w:TW):Prop:=
cond (decide ((d:Int)<9223372036854775808)) (
R (.tuple #[.int .u64 0,.bool false]) w) (
bnd (bh .xor .u64 IntKind.u64.max d) λn=>
cl Pg F.ez [.int .u64 n,.int .u64 18446744073709551615,.int .u64 d] w [.one (.int .u64),.one (.int .u64)] λ(r:Int)(_:Int) w1=>
R (.tuple #[.int .u64 r,.bool true]) w1)
theorem Ct.fS{d:Int}(h:Sh.fS d (Rt X [.one (.int .u64),.one .bool] K w) w.here):Ct Pg F.fS [.int .u64 d] w X [.one (.int .u64),.one .bool] K:=
 cod (Sh.fS d) 16 [] [] [] f191 h
def Sh.i5(a2:Int)(a1:Int)(a0:Int)(d1:Int)(d0:Int)(v:Int)(R:Value→TW→Prop)(w:TW):Prop:=
Jn [.bool] (λJ0=>
cond (decide ((d1:Int)<9223372036854775808)) (
J0 true w) (
cl Pg F.gv [.int .u64 a2,.int .u64 a1,.int .u64 d1,.int .u64 d0] w [.one .bool] λ(ok:Bool) w1=>
J0 (!ok) w1)) λ(x:Bool) w2=>
cond x (
R (.tuple #[.int .u64 0,.int .u64 0,.int .u64 0,.bool false]) w2) (
cl Pg F.aJ [.int .u64 v,.int .u64 a2] w2 [.one (.int .u64),.one (.int .u64)] λ(r:Int)(r1:Int) w3=>
gf r1 a1 0 λs c=>
gf r a2 c λs1 _=>
bnd (wu (s1*d1)) λn=>
bnd (wu (a1-n)) λn1=>
cl Pg F.aJ [.int .u64 d0,.int .u64 s1] w3 [.one (.int .u64),.one (.int .u64)] λ(r2:Int)(r3:Int) w4=>
ka a0 r3 0 λs2 c2=>
ka n1 r2 c2 λs3 _=>
ka s2 d0 0 λs4 c4=>
ka s3 d1 c4 λs5 _=>
bnd (wu (s1+1)) λn2=>
Jn [.int .u64,.int .u64,.int .u64] (λJ1=>
cond (decide ((s5:Int)≥s)) (
bnd (wu (n2-1)) λn3=>
gf s4 d0 0 λs6 c6=>
gf s5 d1 c6 λs7 _=>
J1 s7 s6 n3 w4) (
J1 s5 s4 n2 w4)) λ(r11:Int)(r0:Int)(q1:Int) w5=>
cl Pg F.gv [.int .u64 r11,.int .u64 r0,.int .u64 d1,.int .u64 d0] w5 [.one .bool] λ(ok1:Bool) w6=>
Jn [.int .u64,.int .u64,.int .u64] (λJ2=>
cond (!ok1) (
bnd (wu (q1+1)) λn4=>
ka r0 d0 0 λs8 c8=>
ka r11 d1 c8 λs9 _=>
J2 s9 s8 n4 w6) (
J2 r11 r0 q1 w6)) λ(r12:Int)(r01:Int)(q11:Int) w7=>
R (.tuple #[.int .u64 q11,.int .u64 r12,.int .u64 r01,.bool true]) w7)
theorem Ct.i5{a2:Int}{v:Int}{K:KT [.one (.int .u64),.one (.int .u64),.one (.int .u64),.one .bool]}(h:Sh.i5 a2 a1 a0 d1 d0 v (Rt X [.one (.int .u64),.one (.int .u64),.one (.int .u64),.one .bool] K w) w.here):Ct Pg F.i5 [.int .u64 a2,.int .u64 a1,.int .u64 a0,.int .u64 d1,.int .u64 d0,.int .u64 v] w X [.one (.int .u64),.one (.int .u64),.one (.int .u64),.one .bool] K:=
 cod (Sh.i5 a2 a1 a0 d1 d0 v) 131 [] [] [(0,1,[(30,.one .bool)]),(1,14,[(13,.one (.int .u64)),(14,.one (.int .u64)),(16,.one (.int .u64))]),(1,18,[(13,.one (.int .u64)),(14,.one (.int .u64)),(16,.one (.int .u64))])] f192 h
def Sh.gv(a1:Int)(a0:Int)(b1:Int)(b0:Int)(R:Value→TW→Prop)(w:TW):Prop:=
Jn [.bool] (λJ0=>
cond (decide ((a1:Int)<b1)) (
J0 true w) (
cond ((a1:Int) == b1) (
J0 (decide ((a0:Int)<b0)) w) (
J0 false w))) λ(x:Bool) w1=>
R (.bool x) w1
theorem Ct.gv{b1:Int}{b0:Int}{K:KT [.one .bool]}(h:Sh.gv a1 a0 b1 b0 (Rt X [.one .bool] K w) w.here):Ct Pg F.gv [.int .u64 a1,.int .u64 a0,.int .u64 b1,.int .u64 b0] w X [.one .bool] K:=
 cod (Sh.gv a1 a0 b1 b0) 22 [] [] [(0,1,[(8,.one .bool)])] f226 h
end
section
set_option maxRecDepth 100000
open Go.Proofs.Tryz
variable {w:TW} {X:Nat→Prop} {K:KT [.one .slice]} {e0:Option Addr} {a:Sl}
def Sh.jg(t:HL I11)(R:Value→TW→Prop)(w:TW):Prop:=
nwv w λw1=>
cl Pg F.ku [.agg (aT I11 t).toArray] w1 [.one .ptr] λ(p:Option Addr) w2=>
nwb w2 [.pointer p] T.uV λb w3=>
R (.pointer (some ⟨b,0,none⟩)) w3
theorem Ct.jg{t:HL I11}{K:KT [.one .ptr]}(h:Sh.jg t (Rt X [.one .ptr] K w) w.here):Ct Pg F.jg [.agg (aT I11 t).toArray] w X [.one .ptr] K:=
 cod (Sh.jg t) 7 [(1,7)] [(7,11)] [] f15 h
def Sh.bF(e0:Option Addr)(a:Sl)(R:Value→TW→Prop)(w:TW):Prop:=
nwv w λw1=>
cl Pg F.bp [a.v] w1 [.one .slice] λ(s:Sl) w2=>
cond (((s.n:Int):Int) == 0) (
nwv w2 λw3=>
R (.tuple #[.agg #[.slice none 0 0,.bool false],.slice none 0 0]) w3) (
nwb w2 [s.v] T.cN λb w4=>
cl Pg F.ck [.pointer e0,.slice (some ⟨b,0,none⟩) 1 1] w4 [.one .slice] λ(s1:Sl) w5=>
cl Pg F.ej [s.v] w5 [.agg [.slice,.bool]] λ(_:Sl)(r1:Bool) w6=>
nwv w6 λw7=>
nwv w7 λw8=>
nck e0 λa1=>
ldc (.ptr) w8.drew a1 λ(v:Option Addr)=>
nck v λa2=>
ldc (.ptr) w8.drew a2 λ(v1:Option Addr)=>
cl Pg F.cD [.pointer v1,s.v,.agg #[s1.v,.bool r1]] w8.drew [.one .slice,.one (.int .i64)] λ(s2:Sl)(_:Int) w9=>
hld w9 [(a1,.pointer v)] <|
nwv w9 λw10=>
R (.tuple #[.agg #[s1.v,.bool r1],s2.v]) w10)
theorem Ct.bF{K:KT [.agg [.slice,.bool],.one .slice]}(h:Sh.bF e0 a (Rt X [.agg [.slice,.bool],.one .slice] K w) w.here):Ct Pg F.bF [.pointer e0,a.v] w X [.agg [.slice,.bool],.one .slice] K:=
 cod (Sh.bF e0 a) 38 [(4,38),(6,40)] [(38,2),(40,2)] [] f18 h
def Sh.ck(e0:Option Addr)(l:Sl)(R:Value→TW→Prop)(w:TW):Prop:=
Jn [.slice] (λJ0=>
Lp [.slice,.int .i64] (λ(g:Sl)(x:Int) w1 C0=>
cond (decide ((x:Int)<(l.n:Int))) (
ixa l x 1 λa=>
ldc (.slice) w1 a λ(v:Sl)=>
Jn [.slice] (λJ1=>
Lp [.slice,.int .i64] (λ(g1:Sl)(x1:Int) w2 C1=>
cond (decide ((x1:Int)<(v.n:Int))) (
ixa v x1 2 λa1=>
ldc (.slice) w2 (a1.add 0) λ(v1:Sl)=>
ldc (.bool) w2 (a1.add 1) λ(_:Bool)=>
nwv w2 λw3=>
nwv w3 λw4=>
nck e0 λa2=>
ldc (.ptr) w4.drew a2 λ(v3:Option Addr)=>
nck v3 λa3=>
ldc (.ptr) w4.drew a3 λ(v4:Option Addr)=>
nck v4 λa4=>
ldc (.ptr) w4.drew a4 λ(v5:Option Addr)=>
nck v5 λa5=>
ldc (.ptr) w4.drew a5 λ(v6:Option Addr)=>
nck v6 λa6=>
ldc (.ptr) w4.drew a6 λ(v7:Option Addr)=>
nwb w4.drew [g1.v,v1.v] T.go λb w5=>
hld w5 [(a6,.pointer v7),(a5,.pointer v6),(a4,.pointer v5),(a3,.pointer v4),(a2,.pointer v3)] <|
cl Pg F.eh [.pointer v7,.slice (some ⟨b,0,none⟩) 2 2] w5 [.one .slice] λ(s:Sl) w6=>
hld w6 [(a5,.pointer v6),(a4,.pointer v5),(a3,.pointer v4),(a2,.pointer v3)] <|
bnd (wi (x1+1)) λn=>
C1 s n w6) (
J1 g1 w2)) g 0 w1) λ(g2:Sl) w7=>
bnd (wi (x+1)) λn1=>
C0 g2 n1 w7) (
J0 g w1)) Sl.nil 0 w) λ(g3:Sl) w8=>
R (g3.v) w8
theorem Ct.ck{l:Sl}(h:Sh.ck e0 l (Rt X [.one .slice] K w) w.here):Ct Pg F.ck [.pointer e0,l.v] w X [.one .slice] K:=
 cod (Sh.ck e0 l) 46 [(9,46)] [(46,2)] [(2,0,[(5,.one .slice)]),(3,3,[(5,.one .slice),(12,.one (.int .i64))]),(2,2,[(5,.one .slice)]),(3,6,[(5,.one .slice),(18,.one (.int .i64))])] f21 h
def Sh.bo(e0:Option Addr)(x:Sl)(y:Sl)(R:Value→TW→Prop)(w:TW):Prop:=
cond (((x.n:Int):Int) != (y.n:Int)) (
R (.tuple #[.slice none 0 0,.int .i64 1]) w) (
Jn [] (λJ0=>
Lp [.int .i64] (λ(x1:Int) w1 C0=>
cond (decide ((x1:Int)<(x.n:Int))) (
Jn [] (λJ1=>
Lp [.int .i64] (λ(x2:Int) w2 C1=>
cond (decide ((x2:Int)<x1)) (
ixa x x1 2 λa=>
ldc (.slice) w2.drew (a.add 0) λ(v:Sl)=>
ldc (.bool) w2.drew (a.add 1) λ(v1:Bool)=>
ixa x x2 2 λa1=>
ldc (.slice) w2.drew (a1.add 0) λ(v2:Sl)=>
ldc (.bool) w2.drew (a1.add 1) λ(v3:Bool)=>
cl Pg F.jZ [.agg #[v.v,.bool v1],.agg #[v2.v,.bool v3]] w2.drew [.one (.int .i64)] λ(r:Int) w3=>
cond ((r:Int) == 0) (
R (.tuple #[.slice none 0 0,.int .i64 6]) w3) (
bnd (wi (x2+1)) λn=>
C1 n w3)) (
J1 w2)) 0 w1) fun  w4=>
bnd (wi (x1+1)) λn1=>
C0 n1 w4) (
J0 w1)) 0 w) fun  w5=>
cl Pg F.bZ [.int .u64 1] w5 [.one .slice] λ(s:Sl) w6=>
Jn [.slice,.slice,.slice] (λJ2=>
Lp [.slice,.slice,.slice,.int .i64] (λ(tops:Sl)(downs:Sl)(below:Sl)(x3:Int) w7 C2=>
cond (decide ((x3:Int)<(x.n:Int))) (
cl Pg F.fT [.int .i64 1] w7 [.agg [.slice,.bool]] λ(r1:Sl)(r2:Bool) w8=>
nwb w8 [r1.v,.bool r2] T.af λb w9=>
cl Pg F.fT [.int .i64 1] w9 [.agg [.slice,.bool]] λ(r3:Sl)(r4:Bool) w10=>
nwv w10 λw11=>
nwv w11 λw12=>
Jn [.slice,.slice,.bool] (λJ3=>
Lp [.slice,.int .i64,.slice,.bool] (λ(top:Sl)(x4:Int)(down:Sl)(down1:Bool) w13 C3=>
cond (decide ((x4:Int)<(x.n:Int))) (
Jn [.slice,.slice,.bool] (λJ4=>
cond ((x4:Int) != x3) (
nck e0 λa2=>
ldc (.ptr) w13.drew a2 λ(v4:Option Addr)=>
ixa x x4 2 λa3=>
ldc (.slice) w13.drew (a3.add 0) λ(v5:Sl)=>
ldc (.bool) w13.drew (a3.add 1) λ(v6:Bool)=>
cl Pg F.jY [.agg #[v5.v,.bool v6]] w13.drew [.agg [.slice,.bool]] λ(r5:Sl)(r6:Bool) w14=>
hld w14 [(a2,.pointer v4)] <|
cl Pg F.fT [.int .i64 1] w14 [.agg [.slice,.bool]] λ(r7:Sl)(r8:Bool) w15=>
hld w15 [(a2,.pointer v4)] <|
nwb w15 [r5.v,.bool r6,r7.v,.bool r8] T.af λb1 w16=>
hld w16 [(a2,.pointer v4)] <|
cl Pg F.aw [.pointer v4,top.v,.slice (some ⟨b1,0,none⟩) 2 2] w16 [.one .slice] λ(s1:Sl) w17=>
ixa x x3 2 λa4=>
ldc (.slice) w17.drew (a4.add 0) λ(v7:Sl)=>
ldc (.bool) w17.drew (a4.add 1) λ(v8:Bool)=>
ixa x x4 2 λa5=>
ldc (.slice) w17.drew (a5.add 0) λ(v9:Sl)=>
ldc (.bool) w17.drew (a5.add 1) λ(v10:Bool)=>
cl Pg F.jJ [.agg #[v7.v,.bool v8],.agg #[v9.v,.bool v10]] w17.drew [.agg [.slice,.bool]] λ(r9:Sl)(r10:Bool) w18=>
cl Pg F.ba [.pointer e0,.agg #[down.v,.bool down1],.agg #[r9.v,.bool r10]] w18 [.agg [.slice,.bool]] λ(r11:Sl)(r12:Bool) w19=>
nwv w19 λw20=>
J4 s1 r11 r12 w20) (
J4 top down down1 w13)) λ(top1:Sl)(down2:Sl)(down3:Bool) w21=>
bnd (wi (x4+1)) λn2=>
C3 top1 n2 down2 down3 w21) (
J3 top down down1 w13)) ⟨(some ⟨b,0,none⟩),1,1⟩ 0 r3 r4 w12) λ(top2:Sl)(down4:Sl)(down5:Bool) w22=>
Jn [.slice,.slice,.slice] (λJ5=>
(nwb w22.drew [top2.v] T.cN λb2 w23=>
(apd w23 T.cN 1 24 tops ⟨(some ⟨b2,0,none⟩),1,1⟩ λs2 w24=>
nwb w24 [down4.v,.bool down5] T.af λb3 w25=>
apd w25 T.af 2 32 downs ⟨(some ⟨b3,0,none⟩),1,1⟩ λs3 w26=>
J5 s2 s3 down4 w26)∧
(nwb w23 [down4.v,.bool down5] T.af λb4 w27=>
apd w27 T.cN 1 24 tops ⟨(some ⟨b2,0,none⟩),1,1⟩ λs4 w28=>
apd w28 T.af 2 32 downs ⟨(some ⟨b4,0,none⟩),1,1⟩ λs5 w29=>
J5 s4 s5 down4 w29))∧
(nwb w22.drew [down4.v,.bool down5] T.af λb5 w30=>
nwb w30 [top2.v] T.cN λb6 w31=>
apd w31 T.cN 1 24 tops ⟨(some ⟨b6,0,none⟩),1,1⟩ λs6 w32=>
apd w32 T.af 2 32 downs ⟨(some ⟨b5,0,none⟩),1,1⟩ λs7 w33=>
J5 s6 s7 down4 w33)) λ(tops1:Sl)(downs1:Sl)(down6:Sl) w34=>
nck e0 λa6=>
ldc (.ptr) w34.drew a6 λ(v11:Option Addr)=>
nck v11 λa7=>
ldc (.ptr) w34.drew a7 λ(v12:Option Addr)=>
nck v12 λa8=>
ldc (.ptr) w34.drew a8 λ(v13:Option Addr)=>
nck v13 λa9=>
ldc (.ptr) w34.drew a9 λ(v14:Option Addr)=>
nck v14 λa10=>
ldc (.ptr) w34.drew a10 λ(v15:Option Addr)=>
nwb w34.drew [below.v,down6.v] T.go λb7 w35=>
hld w35 [(a10,.pointer v15),(a9,.pointer v14),(a8,.pointer v13),(a7,.pointer v12),(a6,.pointer v11)] <|
cl Pg F.eg [.pointer v15,.slice (some ⟨b7,0,none⟩) 2 2] w35 [.one .slice] λ(s8:Sl) w36=>
hld w36 [(a9,.pointer v14),(a8,.pointer v13),(a7,.pointer v12),(a6,.pointer v11)] <|
bnd (wi (x3+1)) λn3=>
C2 tops1 downs1 s8 n3 w36) (
J2 tops downs below w7)) Sl.nil Sl.nil s 0 w6) λ(tops2:Sl)(downs2:Sl)(below1:Sl) w37=>
Jn [.slice] (λJ6=>
Lp [.slice,.int .i64] (λ(sum:Sl)(x5:Int) w38 C4=>
cond (decide ((x5:Int)<(x.n:Int))) (
nck e0 λa11=>
ldc (.ptr) w38.drew a11 λ(v16:Option Addr)=>
nck v16 λa12=>
ldc (.ptr) w38.drew a12 λ(v17:Option Addr)=>
nck v17 λa13=>
ldc (.ptr) w38.drew a13 λ(v18:Option Addr)=>
nck v18 λa14=>
ldc (.ptr) w38.drew a14 λ(v19:Option Addr)=>
nck v19 λa15=>
ldc (.ptr) w38.drew a15 λ(v20:Option Addr)=>
nck v20 λa16=>
ldc (.ptr) w38.drew a16 λ(v21:Option Addr)=>
nck v21 λa17=>
ldc (.ptr) w38.drew a17 λ(v22:Option Addr)=>
ixa y x5 2 λa18=>
ldc (.slice) w38.drew (a18.add 0) λ(v23:Sl)=>
ldc (.bool) w38.drew (a18.add 1) λ(v24:Bool)=>
ixa downs2 x5 2 λa19=>
ldc (.slice) w38.drew (a19.add 0) λ(v25:Sl)=>
ldc (.bool) w38.drew (a19.add 1) λ(v26:Bool)=>
(cl Pg F.ba [.pointer e0,.agg #[below1.v,.bool false],.agg #[v23.v,.bool v24]] w38.drew [.agg [.slice,.bool]] λ(r13:Sl)(r14:Bool) w39=>
hld w39 [(a19.add 0,v25.v),(a19.add 1,.bool v26),(a17,.pointer v22),(a16,.pointer v21),(a15,.pointer v20),(a14,.pointer v19),(a13,.pointer v18),(a12,.pointer v17),(a11,.pointer v16)] <|
(cl Pg F.ay [.pointer v22,.agg #[r13.v,.bool r14],.agg #[v25.v,.bool v26]] w39 [.agg [.slice,.bool],.one (.int .i64)] λ(r15:Sl)(r16:Bool)(_:Int) w40=>
hld w40 [(a16,.pointer v21),(a15,.pointer v20),(a14,.pointer v19),(a13,.pointer v18),(a12,.pointer v17),(a11,.pointer v16)] <|
nwv w40 λw41=>
hld w41 [(a16,.pointer v21),(a15,.pointer v20),(a14,.pointer v19),(a13,.pointer v18),(a12,.pointer v17),(a11,.pointer v16)] <|
nwv w41 λw42=>
nck e0 λa20=>
ldc (.ptr) w42.drew a20 λ(v27:Option Addr)=>
nck v27 λa21=>
ldc (.ptr) w42.drew a21 λ(v28:Option Addr)=>
ixa tops2 x5 1 λa22=>
ldc (.slice) w42.drew a22 λ(v29:Sl)=>
cl Pg F.bn [.pointer v28,v29.v,.agg #[r15.v,.bool r16]] w42.drew [.one .slice] λ(s9:Sl) w43=>
hld w43 [(a20,.pointer v27)] <|
nwb w43 [sum.v,s9.v] T.cN λb8 w44=>
hld w44 [(a20,.pointer v27)] <|
cl Pg F.fA [.slice (some ⟨b8,0,none⟩) 2 2] w44 [.one .slice] λ(s10:Sl) w45=>
hld w45 [(a20,.pointer v27)] <|
bnd (wi (x5+1)) λn4=>
C4 s10 n4 w45)∧
(nwv w39 λw46=>
hld w46 [(a19.add 0,v25.v),(a19.add 1,.bool v26),(a17,.pointer v22),(a16,.pointer v21),(a15,.pointer v20),(a14,.pointer v19),(a13,.pointer v18),(a12,.pointer v17),(a11,.pointer v16)] <|
cl Pg F.ay [.pointer v22,.agg #[r13.v,.bool r14],.agg #[v25.v,.bool v26]] w46 [.agg [.slice,.bool],.one (.int .i64)] λ(r18:Sl)(r19:Bool)(_:Int) w47=>
hld w47 [(a16,.pointer v21),(a15,.pointer v20),(a14,.pointer v19),(a13,.pointer v18),(a12,.pointer v17),(a11,.pointer v16)] <|
nwv w47 λw48=>
nck e0 λa23=>
ldc (.ptr) w48.drew a23 λ(v30:Option Addr)=>
nck v30 λa24=>
ldc (.ptr) w48.drew a24 λ(v31:Option Addr)=>
ixa tops2 x5 1 λa25=>
ldc (.slice) w48.drew a25 λ(v32:Sl)=>
cl Pg F.bn [.pointer v31,v32.v,.agg #[r18.v,.bool r19]] w48.drew [.one .slice] λ(s11:Sl) w49=>
hld w49 [(a23,.pointer v30)] <|
nwb w49 [sum.v,s11.v] T.cN λb9 w50=>
hld w50 [(a23,.pointer v30)] <|
cl Pg F.fA [.slice (some ⟨b9,0,none⟩) 2 2] w50 [.one .slice] λ(s12:Sl) w51=>
hld w51 [(a23,.pointer v30)] <|
bnd (wi (x5+1)) λn5=>
C4 s12 n5 w51))∧
(nwv w38.drew λw52=>
hld w52 [(a19.add 0,v25.v),(a19.add 1,.bool v26),(a18.add 0,v23.v),(a18.add 1,.bool v24),(a17,.pointer v22),(a16,.pointer v21),(a15,.pointer v20),(a14,.pointer v19),(a13,.pointer v18),(a12,.pointer v17),(a11,.pointer v16)] <|
cl Pg F.ba [.pointer e0,.agg #[below1.v,.bool false],.agg #[v23.v,.bool v24]] w52 [.agg [.slice,.bool]] λ(r21:Sl)(r22:Bool) w53=>
hld w53 [(a19.add 0,v25.v),(a19.add 1,.bool v26),(a17,.pointer v22),(a16,.pointer v21),(a15,.pointer v20),(a14,.pointer v19),(a13,.pointer v18),(a12,.pointer v17),(a11,.pointer v16)] <|
cl Pg F.ay [.pointer v22,.agg #[r21.v,.bool r22],.agg #[v25.v,.bool v26]] w53 [.agg [.slice,.bool],.one (.int .i64)] λ(r23:Sl)(r24:Bool)(_:Int) w54=>
hld w54 [(a16,.pointer v21),(a15,.pointer v20),(a14,.pointer v19),(a13,.pointer v18),(a12,.pointer v17),(a11,.pointer v16)] <|
nwv w54 λw55=>
nck e0 λa26=>
ldc (.ptr) w55.drew a26 λ(v33:Option Addr)=>
nck v33 λa27=>
ldc (.ptr) w55.drew a27 λ(v34:Option Addr)=>
ixa tops2 x5 1 λa28=>
ldc (.slice) w55.drew a28 λ(v35:Sl)=>
cl Pg F.bn [.pointer v34,v35.v,.agg #[r23.v,.bool r24]] w55.drew [.one .slice] λ(s13:Sl) w56=>
hld w56 [(a26,.pointer v33)] <|
nwb w56 [sum.v,s13.v] T.cN λb10 w57=>
hld w57 [(a26,.pointer v33)] <|
cl Pg F.fA [.slice (some ⟨b10,0,none⟩) 2 2] w57 [.one .slice] λ(s14:Sl) w58=>
hld w58 [(a26,.pointer v33)] <|
bnd (wi (x5+1)) λn6=>
C4 s14 n6 w58)) (
J6 sum w38)) Sl.nil 0 w37) λ(sum1:Sl) w59=>
nck e0 λa29=>
ldc (.ptr) w59 a29 λ(v36:Option Addr)=>
nck v36 λa30=>
ldc (.ptr) w59 a30 λ(v37:Option Addr)=>
cl Pg F.cD [.pointer v37,sum1.v,.agg #[below1.v,.bool false]] w59 [.one .slice,.one (.int .i64)] λ(s15:Sl)(r26:Int) w60=>
cond ((r26:Int) != 0) (
R (.tuple #[.slice none 0 0,.int .i64 7]) w60) (
R (.tuple #[s15.v,.int .i64 0]) w60))
theorem Ct.bo{x:Sl}{y:Sl}{K:KT [.one .slice,.one (.int .i64)]}(h:Sh.bo e0 x y (Rt X [.one .slice,.one (.int .i64)] K w) w.here):Ct Pg F.bo [.pointer e0,x.v,y.v] w X [.one .slice,.one (.int .i64)] K:=
 cod (Sh.bo e0 x y) 199 [(15,199),(19,201)] [(199,2),(201,2)] [(2,0,[]),(3,4,[(30,.one (.int .i64))]),(2,2,[]),(3,7,[(34,.one (.int .i64))]),(2,4,[(10,.one .slice),(11,.one .slice),(12,.one .slice)]),(3,17,[(10,.one .slice),(11,.one .slice),(12,.one .slice),(52,.one (.int .i64))]),(2,6,[(14,.one .slice),(199,.one .slice),(200,.one .bool)]),(3,21,[(14,.one .slice),(60,.one (.int .i64)),(199,.one .slice),(200,.one .bool)]),(1,24,[(14,.one .slice),(199,.one .slice),(200,.one .bool)]),(0,27,[(10,.one .slice),(11,.one .slice),(199,.one .slice)]),(2,8,[(17,.one .slice)]),(3,32,[(17,.one .slice),(124,.one (.int .i64))])] f29 h
def Sh.cj(e0:Option Addr)(a:Sl)(b:Sl)(R:Value→TW→Prop)(w:TW):Prop:=
cl Pg F.bp [a.v] w [.one .slice] λ(s:Sl) w1=>
cl Pg F.bp [b.v] w1 [.one .slice] λ(s1:Sl) w2=>
cond (((s1.n:Int):Int) == 0) (
R (.tuple #[.slice none 0 0,.int .i64 2]) w2) (
Jn [.slice] (λJ0=>
cond (decide (((s.n:Int):Int)≥(s1.n:Int))) (
bnd (wi ((s.n:Int)-(s1.n:Int))) λn=>
bnd (wi (n+1)) λn1=>
mks w2 n1 n1 T.af 32 [.slice none 0 0,.bool false] λs2 w3=>
J0 s2 w3) (
J0 Sl.nil w2)) λ(q:Sl) w4=>
Jn [.slice] (λJ1=>
Lp [.slice] (λ(r:Sl) w5 C0=>
cond (decide (((r.n:Int):Int)≥(s1.n:Int))) (
nck e0 λa1=>
ldc (.ptr) w5.drew a1 λ(v:Option Addr)=>
nck v λa2=>
ldc (.ptr) w5.drew a2 λ(v1:Option Addr)=>
nck v1 λa3=>
ldc (.ptr) w5.drew a3 λ(v2:Option Addr)=>
nck v2 λa4=>
ldc (.ptr) w5.drew a4 λ(v3:Option Addr)=>
nck v3 λa5=>
ldc (.ptr) w5.drew a5 λ(v4:Option Addr)=>
nck v4 λa6=>
ldc (.ptr) w5.drew a6 λ(v5:Option Addr)=>
nck v5 λa7=>
ldc (.ptr) w5.drew a7 λ(v6:Option Addr)=>
(cl Pg F.ej [r.v] w5.drew [.agg [.slice,.bool]] λ(r1:Sl)(r2:Bool) w6=>
hld w6 [(a7,.pointer v6),(a6,.pointer v5),(a5,.pointer v4),(a4,.pointer v3),(a3,.pointer v2),(a2,.pointer v1),(a1,.pointer v)] <|
(cl Pg F.ej [s1.v] w6 [.agg [.slice,.bool]] λ(r3:Sl)(r4:Bool) w7=>
hld w7 [(a7,.pointer v6),(a6,.pointer v5),(a5,.pointer v4),(a4,.pointer v3),(a3,.pointer v2),(a2,.pointer v1),(a1,.pointer v)] <|
(cl Pg F.ay [.pointer v6,.agg #[r1.v,.bool r2],.agg #[r3.v,.bool r4]] w7 [.agg [.slice,.bool],.one (.int .i64)] λ(r5:Sl)(r6:Bool)(r7:Int) w8=>
hld w8 [(a6,.pointer v5),(a5,.pointer v4),(a4,.pointer v3),(a3,.pointer v2),(a2,.pointer v1),(a1,.pointer v)] <|
nwv w8 λw9=>
hld w9 [(a6,.pointer v5),(a5,.pointer v4),(a4,.pointer v3),(a3,.pointer v2),(a2,.pointer v1),(a1,.pointer v)] <|
nwv w9 λw10=>
cond ((r7:Int) != 0) (
R (.tuple #[.slice none 0 0,.int .i64 r7]) w10) (
bnd (wi ((r.n:Int)-(s1.n:Int))) λn2=>
ixa q n2 2 λa8=>
stc w10 a8 r5.v λw11=>
stc w11 (a8.add 1) (.bool r6) λw12=>
nck e0 λa9=>
ldc (.ptr) w12.drew a9 λ(v7:Option Addr)=>
cl Pg F.eV [.agg #[r5.v,.bool r6],.int .i64 n2] w12.drew [.one .slice] λ(s3:Sl) w13=>
hld w13 [(a9,.pointer v7)] <|
cl Pg F.aw [.pointer v7,s3.v,s1.v] w13 [.one .slice] λ(s4:Sl) w14=>
cl Pg F.ef [r.v,s4.v] w14 [.one .slice] λ(s5:Sl) w15=>
C0 s5 w15))∧
(nwv w7 λw16=>
hld w16 [(a7,.pointer v6),(a6,.pointer v5),(a5,.pointer v4),(a4,.pointer v3),(a3,.pointer v2),(a2,.pointer v1),(a1,.pointer v)] <|
cl Pg F.ay [.pointer v6,.agg #[r1.v,.bool r2],.agg #[r3.v,.bool r4]] w16 [.agg [.slice,.bool],.one (.int .i64)] λ(r8:Sl)(r9:Bool)(r10:Int) w17=>
hld w17 [(a6,.pointer v5),(a5,.pointer v4),(a4,.pointer v3),(a3,.pointer v2),(a2,.pointer v1),(a1,.pointer v)] <|
nwv w17 λw18=>
cond ((r10:Int) != 0) (
R (.tuple #[.slice none 0 0,.int .i64 r10]) w18) (
bnd (wi ((r.n:Int)-(s1.n:Int))) λn3=>
ixa q n3 2 λa10=>
stc w18 a10 r8.v λw19=>
stc w19 (a10.add 1) (.bool r9) λw20=>
nck e0 λa11=>
ldc (.ptr) w20.drew a11 λ(v8:Option Addr)=>
cl Pg F.eV [.agg #[r8.v,.bool r9],.int .i64 n3] w20.drew [.one .slice] λ(s6:Sl) w21=>
hld w21 [(a11,.pointer v8)] <|
cl Pg F.aw [.pointer v8,s6.v,s1.v] w21 [.one .slice] λ(s7:Sl) w22=>
cl Pg F.ef [r.v,s7.v] w22 [.one .slice] λ(s8:Sl) w23=>
C0 s8 w23)))∧
(nwv w6 λw24=>
hld w24 [(a7,.pointer v6),(a6,.pointer v5),(a5,.pointer v4),(a4,.pointer v3),(a3,.pointer v2),(a2,.pointer v1),(a1,.pointer v)] <|
cl Pg F.ej [s1.v] w24 [.agg [.slice,.bool]] λ(r11:Sl)(r12:Bool) w25=>
hld w25 [(a7,.pointer v6),(a6,.pointer v5),(a5,.pointer v4),(a4,.pointer v3),(a3,.pointer v2),(a2,.pointer v1),(a1,.pointer v)] <|
cl Pg F.ay [.pointer v6,.agg #[r1.v,.bool r2],.agg #[r11.v,.bool r12]] w25 [.agg [.slice,.bool],.one (.int .i64)] λ(r13:Sl)(r14:Bool)(r15:Int) w26=>
hld w26 [(a6,.pointer v5),(a5,.pointer v4),(a4,.pointer v3),(a3,.pointer v2),(a2,.pointer v1),(a1,.pointer v)] <|
nwv w26 λw27=>
cond ((r15:Int) != 0) (
R (.tuple #[.slice none 0 0,.int .i64 r15]) w27) (
bnd (wi ((r.n:Int)-(s1.n:Int))) λn4=>
ixa q n4 2 λa12=>
stc w27 a12 r13.v λw28=>
stc w28 (a12.add 1) (.bool r14) λw29=>
nck e0 λa13=>
ldc (.ptr) w29.drew a13 λ(v9:Option Addr)=>
cl Pg F.eV [.agg #[r13.v,.bool r14],.int .i64 n4] w29.drew [.one .slice] λ(s9:Sl) w30=>
hld w30 [(a13,.pointer v9)] <|
cl Pg F.aw [.pointer v9,s9.v,s1.v] w30 [.one .slice] λ(s10:Sl) w31=>
cl Pg F.ef [r.v,s10.v] w31 [.one .slice] λ(s11:Sl) w32=>
C0 s11 w32)))∧
(nwv w5.drew λw33=>
hld w33 [(a7,.pointer v6),(a6,.pointer v5),(a5,.pointer v4),(a4,.pointer v3),(a3,.pointer v2),(a2,.pointer v1),(a1,.pointer v)] <|
cl Pg F.ej [r.v] w33 [.agg [.slice,.bool]] λ(r16:Sl)(r17:Bool) w34=>
hld w34 [(a7,.pointer v6),(a6,.pointer v5),(a5,.pointer v4),(a4,.pointer v3),(a3,.pointer v2),(a2,.pointer v1),(a1,.pointer v)] <|
cl Pg F.ej [s1.v] w34 [.agg [.slice,.bool]] λ(r18:Sl)(r19:Bool) w35=>
hld w35 [(a7,.pointer v6),(a6,.pointer v5),(a5,.pointer v4),(a4,.pointer v3),(a3,.pointer v2),(a2,.pointer v1),(a1,.pointer v)] <|
cl Pg F.ay [.pointer v6,.agg #[r16.v,.bool r17],.agg #[r18.v,.bool r19]] w35 [.agg [.slice,.bool],.one (.int .i64)] λ(r20:Sl)(r21:Bool)(r22:Int) w36=>
hld w36 [(a6,.pointer v5),(a5,.pointer v4),(a4,.pointer v3),(a3,.pointer v2),(a2,.pointer v1),(a1,.pointer v)] <|
nwv w36 λw37=>
cond ((r22:Int) != 0) (
R (.tuple #[.slice none 0 0,.int .i64 r22]) w37) (
bnd (wi ((r.n:Int)-(s1.n:Int))) λn5=>
ixa q n5 2 λa14=>
stc w37 a14 r20.v λw38=>
stc w38 (a14.add 1) (.bool r21) λw39=>
nck e0 λa15=>
ldc (.ptr) w39.drew a15 λ(v10:Option Addr)=>
cl Pg F.eV [.agg #[r20.v,.bool r21],.int .i64 n5] w39.drew [.one .slice] λ(s12:Sl) w40=>
hld w40 [(a15,.pointer v10)] <|
cl Pg F.aw [.pointer v10,s12.v,s1.v] w40 [.one .slice] λ(s13:Sl) w41=>
cl Pg F.ef [r.v,s13.v] w41 [.one .slice] λ(s14:Sl) w42=>
C0 s14 w42))) (
J1 r w5)) s w4) λ(r23:Sl) w43=>
cond (decide (((r23.n:Int):Int)>0)) (
R (.tuple #[.slice none 0 0,.int .i64 5]) w43) (
cl Pg F.bp [q.v] w43 [.one .slice] λ(s15:Sl) w44=>
R (.tuple #[s15.v,.int .i64 0]) w44))
theorem Ct.cj{b:Sl}{K:KT [.one .slice,.one (.int .i64)]}(h:Sh.cj e0 a b (Rt X [.one .slice,.one (.int .i64)] K w) w.here):Ct Pg F.cj [.pointer e0,a.v,b.v] w X [.one .slice,.one (.int .i64)] K:=
 cod (Sh.cj e0 a b) 95 [(10,95)] [(95,2)] [(1,7,[(9,.one .slice)]),(2,0,[(8,.one .slice)]),(3,8,[(8,.one .slice)])] f37 h
def Sh.ej(a:Sl)(R:Value→TW→Prop)(w:TW):Prop:=
nwv w λw1=>
bnd (wi ((a.n:Int)-1)) λn=>
ixa a n 2 λa1=>
ldc (.slice) w1 (a1.add 0) λ(v:Sl)=>
ldc (.bool) w1 (a1.add 1) λ(v1:Bool)=>
nwv w1 λw2=>
R (.agg #[v.v,.bool v1]) w2
theorem Ct.ej{K:KT [.agg [.slice,.bool]]}(h:Sh.ej a (Rt X [.agg [.slice,.bool]] K w) w.here):Ct Pg F.ej [a.v] w X [.agg [.slice,.bool]] K:=
 cod (Sh.ej a) 9 [(2,9)] [(9,2)] [] f55 h
def Sh.ba(e0:Option Addr)(a0:Sl)(a1:Bool)(b0:Sl)(b1:Bool)(R:Value→TW→Prop)(w:TW):Prop:=
nwv w λw1=>
nwv w1 λw2=>
nwv w2 λw3=>
nck e0 λa2=>
ldc (.ptr) w3.drew a2 λ(v:Option Addr)=>
nck v λa3=>
ldc (.ptr) w3.drew a3 λ(v1:Option Addr)=>
nck v1 λa4=>
ldc (.ptr) w3.drew a4 λ(v2:Option Addr)=>
nck v2 λa5=>
ldc (.ptr) w3.drew a5 λ(v3:Option Addr)=>
nck v3 λa6=>
ldc (.ptr) w3.drew a6 λ(v4:Option Addr)=>
nck v4 λa7=>
ldc (.ptr) w3.drew a7 λ(v5:Option Addr)=>
nck v5 λa8=>
ldc (.ptr) w3.drew a8 λ(v6:Option Addr)=>
nck v6 λa9=>
ldc (.ptr) w3.drew a9 λ(v7:Option Addr)=>
nck v7 λa10=>
ldc (.ptr) w3.drew a10 λ(v8:Option Addr)=>
nck v8 λa11=>
ldc (.ptr) w3.drew a11 λ(v9:Option Addr)=>
nck v9 λa12=>
ldc (.ptr) w3.drew a12 λ(v10:Option Addr)=>
nck v10 λa13=>
ldc (.ptr) w3.drew a13 λ(v11:Option Addr)=>
nck v11 λa14=>
ldc (.ptr) w3.drew a14 λ(v12:Option Addr)=>
cl Pg F.bv [.pointer v12,a0.v,b0.v] w3.drew [.one .slice] λ(s:Sl) w4=>
hld w4 [(a13,.pointer v11),(a12,.pointer v10),(a11,.pointer v9),(a10,.pointer v8),(a9,.pointer v7),(a8,.pointer v6),(a7,.pointer v5),(a6,.pointer v4),(a5,.pointer v3),(a4,.pointer v2),(a3,.pointer v1),(a2,.pointer v)] <|
Jn [.slice,.bool] (λJ0=>
cond (!(a1 == b1)) (
cl Pg F.az [s.v] w4 [.one .bool] λ(ok:Bool) w5=>
nwv w5 λw6=>
J0 s (!ok) w6) (
nwv w4 λw7=>
J0 s false w7)) λ(x:Sl)(x1:Bool) w8=>
R (.agg #[x.v,.bool x1]) w8
theorem Ct.ba{a0:Sl}{a1:Bool}{b0:Sl}{b1:Bool}{K:KT [.agg [.slice,.bool]]}(h:Sh.ba e0 a0 a1 b0 b1 (Rt X [.agg [.slice,.bool]] K w) w.here):Ct Pg F.ba [.pointer e0,.agg #[a0.v,.bool a1],.agg #[b0.v,.bool b1]] w X [.agg [.slice,.bool]] K:=
 cod (Sh.ba e0 a0 a1 b0 b1) 65 [(4,65),(5,67),(6,69)] [(65,2),(67,2),(69,2)] [(0,2,[(69,.one .slice),(70,.one .bool)])] f69 h
def Sh.eV(c0:Sl)(c1:Bool)(k:Int)(R:Value→TW→Prop)(w:TW):Prop:=
nwv w λw1=>
bnd (wi (k+1)) λn=>
mks w1 n n T.af 32 [.slice none 0 0,.bool false] λs w2=>
ixa s k 2 λa=>
stc w2 a c0.v λw3=>
stc w3 (a.add 1) (.bool c1) λw4=>
R (s.v) w4
theorem Ct.eV{c0:Sl}{c1:Bool}{k:Int}(h:Sh.eV c0 c1 k (Rt X [.one .slice] K w) w.here):Ct Pg F.eV [.agg #[c0.v,.bool c1],.int .i64 k] w X [.one .slice] K:=
 cod (Sh.eV c0 c1 k) 14 [(2,14)] [(14,2)] [] f78 h
end
end Go.Proofs.YtpbimnlggalnfaaGreatDoor.Zg
