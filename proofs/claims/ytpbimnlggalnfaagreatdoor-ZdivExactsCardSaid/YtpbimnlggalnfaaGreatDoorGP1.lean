/- A part of the proofs of this seat's laws. -/
import Derived.Test.YtpbimnlggalnfaaGreatDoorGC
set_option linter.unusedVariables false
set_option linter.unusedSimpArgs false
set_option linter.unnecessarySimpa false
namespace Go.Proofs.YtpbimnlggalnfaaGreatDoor.Zg
open Go.RowKit
section
set_option maxRecDepth 100000
open Go.Proofs.Tryz
variable {w:TW} {X:Nat→Prop} {K:KT [.agg [.slice,.slice,.slice,.slice]]} {e0:Option Addr} {a b m0 m1 m2 m3:Sl}
def Sh.jU(t:HL I11)(R:Value→TW→Prop)(w:TW):Prop:=
nwv w λw1=>
cl Pg F.kC [.agg (aT I11 t).toArray] w1 [.one .ptr] λ(p:Option Addr) w2=>
nwb w2 [.pointer p] T.uZ λb w3=>
R (.pointer (some ⟨b,0,none⟩)) w3
theorem Ct.jU{t:HL I11}{K:KT [.one .ptr]}(h:Sh.jU t (Rt X [.one .ptr] K w) w.here):Ct Pg F.jU [.agg (aT I11 t).toArray] w X [.one .ptr] K:=
 cod (Sh.jU t) 7 [(1,7)] [(7,11)] [] f132 h
def Sh.dV(e0:Option Addr)(a:Sl)(b:Sl)(R:Value→TW→Prop)(w:TW):Prop:=
nwv w λw1=>
nwv w1 λw2=>
cl Pg F.dp [.pointer e0,a.v,b.v,.int .i64 0] w2 [.agg [.slice,.slice,.slice,.slice],.one .slice,.one .slice,.one (.int .i64)] λ(_:Sl)(r1:Sl)(_:Sl)(r3:Sl)(s:Sl)(_:Sl)(r4:Int) w3=>
nwv w3 λw4=>
nwv w4 λw5=>
cl Pg F.az [s.v] w5 [.one .bool] λ(ok:Bool) w6=>
cond ok (
nwv w6 λw7=>
nwv w7 λw8=>
R (.tuple #[.slice none 0 0,.agg #[.slice none 0 0,.bool false],.agg #[.slice none 0 0,.bool false]]) w8) (
cond ((r4:Int) == 0) (
cl Pg F.bZ [.int .u64 1] w6 [.one .slice] λ(s2:Sl) w9=>
nwv w9 λw10=>
nwv w10 λw11=>
R (.tuple #[s.v,.agg #[s2.v,.bool false],.agg #[.slice none 0 0,.bool false]]) w11) (
dY r4 2 λn=>
Jn [.slice,.bool,.slice,.bool,.slice] (λJ0=>
cond (!((n:Int) == 0)) (
cl Pg F.az [r3.v] w6.drew [.one .bool] λ(ok1:Bool) w12=>
nwv w12 λw13=>
J0 r3 (!ok1) Sl.nil false r1 w13) (
nwv w6.drew λw14=>
J0 r3 false Sl.nil false r1 w14)) λ(x:Sl)(x1:Bool)(_:Sl)(_:Bool)(m:Sl) w15=>
Jn [.slice,.bool,.slice,.bool] (λJ1=>
cond ((n:Int) == 0) (
cl Pg F.az [m.v] w15.drew [.one .bool] λ(ok2:Bool) w16=>
nwv w16 λw17=>
J1 x x1 m (!ok2) w17) (
nwv w15.drew λw18=>
J1 x x1 m false w18)) λ(x2:Sl)(x3:Bool)(y2:Sl)(y3:Bool) w19=>
nwv w19.drew λw20=>
nwv w20 λw21=>
R (.tuple #[s.v,.agg #[x2.v,.bool x3],.agg #[y2.v,.bool y3]]) w21))
theorem Ct.dV{K:KT [.one .slice,.agg [.slice,.bool],.agg [.slice,.bool]]}(h:Sh.dV e0 a b (Rt X [.one .slice,.agg [.slice,.bool],.agg [.slice,.bool]] K w) w.here):Ct Pg F.dV [.pointer e0,a.v,b.v] w X [.one .slice,.agg [.slice,.bool],.agg [.slice,.bool]] K:=
 cod (Sh.dV e0 a b) 61 [(7,61),(8,63),(9,65)] [(61,2),(63,2),(65,4)] [(0,7,[(61,.one .slice),(62,.one .bool),(63,.one .slice),(64,.one .bool),(66,.one .slice)]),(0,8,[(61,.one .slice),(62,.one .bool),(63,.one .slice),(64,.one .bool)])] f182 h
def Sh.dp(e0:Option Addr)(a:Sl)(b:Sl)(k:Int)(R:Value→TW→Prop)(w:TW):Prop:=
nwv w λw1=>
cl Pg F.jd [] w1 [.agg [.slice,.slice,.slice,.slice]] λ(r:Sl)(r1:Sl)(r2:Sl)(r3:Sl) w2=>
cl Pg F.aW [a.v] w2 [.one .slice] λ(s:Sl) w3=>
cl Pg F.aW [b.v] w3 [.one .slice] λ(s1:Sl) w4=>
nwv w4 λw5=>
bnd (if (0:Int)>k then 0 else k) λn=>
Jn [.slice,.slice,.int .i64,.slice,.slice,.slice,.slice] (λJ0=>
Lp [.slice,.slice,.int .i64,.slice,.slice,.slice,.slice] (λ(c:Sl)(d:Sl)(n1:Int)(m:Sl)(m1:Sl)(m2:Sl)(m3:Sl) w6 C0=>
cl Pg F.cd [d.v] w6 [.one (.int .i64)] λ(r4:Int) w7=>
cond (decide ((r4:Int)>n)) (
Jn [.slice,.slice,.int .i64,.slice,.slice,.slice,.slice] (λJ1=>
cl Pg F.fF [c.v,d.v] w7 [.one (.int .i64)] λ(r5:Int) w8=>
Jn [.slice,.slice,.int .i64,.slice,.slice,.slice,.slice] (λJ2=>
cond (decide ((r5:Int)≥0)) (
cl Pg F.jb [c.v,d.v] w8 [.agg [.int .u64,.int .u64,.int .u64,.int .u64,.int .i64]] λ(r6:Int)(r7:Int)(r8:Int)(r9:Int)(r10:Int) w9=>
nwv w9 λw10=>
nwv w10 λw11=>
cl Pg F.eY [.agg #[.int .u64 r6,.int .u64 r7,.int .u64 r8,.int .u64 r9,.int .i64 r10],c.v,d.v] w11 [.one .slice,.one .slice] λ(s2:Sl)(s3:Sl) w12=>
Jn [.bool,.slice,.slice,.slice,.slice,.int .u64,.int .u64,.int .u64,.int .u64,.int .i64] (λJ3=>
cond (decide ((r10:Int)>0)) (
cl Pg F.cd [s2.v] w12 [.one (.int .i64)] λ(r11:Int) w13=>
J3 (decide ((r11:Int)>n)) m m1 m2 m3 r6 r7 r8 r9 r10 w13) (
J3 false m m1 m2 m3 r6 r7 r8 r9 r10 w12)) λ(x:Bool)(m4:Sl)(m5:Sl)(m6:Sl)(m7:Sl)(row:Int)(row1:Int)(row2:Int)(row3:Int)(row4:Int) w14=>
cond x (
bnd (wi (n1+row4)) λn2=>
cl Pg F.gK [.agg #[m4.v,m5.v,m6.v,m7.v],.agg #[.int .u64 row,.int .u64 row1,.int .u64 row2,.int .u64 row3,.int .i64 row4]] w14.drew [.agg [.slice,.slice,.slice,.slice]] λ(r12:Sl)(r13:Sl)(r14:Sl)(r15:Sl) w15=>
nwv w15 λw16=>
J1 s2 s3 n2 r12 r13 r14 r15 w16) (
J2 c d n1 m4 m5 m6 m7 w14)) (
J2 c d n1 m m1 m2 m3 w8)) λ(c1:Sl)(d1:Sl)(n3:Int)(m8:Sl)(m9:Sl)(m10:Sl)(m11:Sl) w17=>
nck e0 λa1=>
ldc (.ptr) w17 a1 λ(v:Option Addr)=>
nck v λa2=>
ldc (.ptr) w17 a2 λ(v1:Option Addr)=>
nck v1 λa3=>
ldc (.ptr) w17 a3 λ(v2:Option Addr)=>
nck v2 λa4=>
ldc (.ptr) w17 a4 λ(v3:Option Addr)=>
nck v3 λa5=>
ldc (.ptr) w17 a5 λ(v4:Option Addr)=>
nck v4 λa6=>
ldc (.ptr) w17 a6 λ(v5:Option Addr)=>
cl Pg F.aP [.pointer v5,c1.v,d1.v] w17 [.one .slice,.one .slice,.one (.int .i64)] λ(s4:Sl)(s5:Sl)(_:Int) w18=>
cl Pg F.ey [.pointer e0,.agg #[m8.v,m9.v,m10.v,m11.v],s4.v] w18 [.agg [.slice,.slice,.slice,.slice]] λ(r17:Sl)(r18:Sl)(r19:Sl)(r20:Sl) w19=>
bnd (wi (n3+1)) λn4=>
nwv w19 λw20=>
J1 d1 s5 n4 r17 r18 r19 r20 w20) λ(c2:Sl)(d2:Sl)(n5:Int)(m12:Sl)(m13:Sl)(m14:Sl)(m15:Sl) w21=>
C0 c2 d2 n5 m12 m13 m14 m15 w21) (
J0 c d n1 m m1 m2 m3 w7)) s s1 0 r r1 r2 r3 w5) λ(c3:Sl)(d3:Sl)(n6:Int)(m16:Sl)(m17:Sl)(m18:Sl)(m19:Sl) w22=>
cl Pg F.jc [.agg #[m16.v,m17.v,m18.v,m19.v]] w22 [.agg [.slice,.slice,.slice,.slice]] λ(r21:Sl)(r22:Sl)(r23:Sl)(r24:Sl) w23=>
nwv w23 λw24=>
R (.tuple #[.agg #[r21.v,r22.v,r23.v,r24.v],c3.v,d3.v,.int .i64 n6]) w24
theorem Ct.dp{k:Int}{K:KT [.agg [.slice,.slice,.slice,.slice],.one .slice,.one .slice,.one (.int .i64)]}(h:Sh.dp e0 a b k (Rt X [.agg [.slice,.slice,.slice,.slice],.one .slice,.one .slice,.one (.int .i64)] K w) w.here):Ct Pg F.dp [.pointer e0,a.v,b.v,.int .i64 k] w X [.agg [.slice,.slice,.slice,.slice],.one .slice,.one .slice,.one (.int .i64)] K:=
 cod (Sh.dp e0 a b k) 100 [(8,100),(12,104)] [(100,4),(104,5)] [(2,0,[(9,.one .slice),(10,.one .slice),(11,.one (.int .i64)),(100,.one .slice),(101,.one .slice),(102,.one .slice),(103,.one .slice)]),(3,3,[(9,.one .slice),(10,.one .slice),(11,.one (.int .i64)),(100,.one .slice),(101,.one .slice),(102,.one .slice),(103,.one .slice)]),(2,1,[(9,.one .slice),(10,.one .slice),(11,.one (.int .i64)),(100,.one .slice),(101,.one .slice),(102,.one .slice),(103,.one .slice)]),(1,5,[(9,.one .slice),(10,.one .slice),(11,.one (.int .i64)),(100,.one .slice),(101,.one .slice),(102,.one .slice),(103,.one .slice)]),(0,7,[(51,.one .bool),(100,.one .slice),(101,.one .slice),(102,.one .slice),(103,.one .slice),(104,.one (.int .u64)),(105,.one (.int .u64)),(106,.one (.int .u64)),(107,.one (.int .u64)),(108,.one (.int .i64))])] f216 h
def Sh.jd(R:Value→TW→Prop)(w:TW):Prop:=
nwv w λw1=>
cl Pg F.bZ [.int .u64 1] w1 [.one .slice] λ(s:Sl) w2=>
cl Pg F.bZ [.int .u64 1] w2 [.one .slice] λ(s1:Sl) w3=>
nwv w3 λw4=>
R (.agg #[s.v,.slice none 0 0,.slice none 0 0,s1.v]) w4
theorem Ct.jd(h:Sh.jd (Rt X [.agg [.slice,.slice,.slice,.slice]] K w) w.here):Ct Pg F.jd [] w X [.agg [.slice,.slice,.slice,.slice]] K:=
 cod Sh.jd 4 [(0,4)] [(4,4)] [] f240 h
def Sh.gK(m0:Sl)(m1:Sl)(m2:Sl)(m3:Sl)(r0:Int)(r1:Int)(r2:Int)(r3:Int)(r4:Int)(R:Value→TW→Prop)(w:TW):Prop:=
nwv w λw1=>
nwv w1 λw2=>
nwv w2 λw3=>
cl Pg F.jL [m0.v,m1.v,.int .u64 r3,.int .u64 r1,.int .u64 r2,.int .u64 r0] w3 [.one .slice,.one .slice] λ(s:Sl)(s1:Sl) w4=>
nwv w4 λw5=>
nwv w5 λw6=>
cl Pg F.jL [m2.v,m3.v,.int .u64 r3,.int .u64 r1,.int .u64 r2,.int .u64 r0] w6 [.one .slice,.one .slice] λ(s2:Sl)(s3:Sl) w7=>
nwv w7 λw8=>
nwv w8 λw9=>
nwv w9 λw10=>
R (.agg #[s.v,s1.v,s2.v,s3.v]) w10
theorem Ct.gK{r0:Int}{r1:Int}{r2:Int}{r3:Int}{r4:Int}(h:Sh.gK m0 m1 m2 m3 r0 r1 r2 r3 r4 (Rt X [.agg [.slice,.slice,.slice,.slice]] K w) w.here):Ct Pg F.gK [.agg #[m0.v,m1.v,m2.v,m3.v],.agg #[.int .u64 r0,.int .u64 r1,.int .u64 r2,.int .u64 r3,.int .i64 r4]] w X [.agg [.slice,.slice,.slice,.slice]] K:=
 cod (Sh.gK m0 m1 m2 m3 r0 r1 r2 r3 r4) 42 [(2,42),(3,46),(4,51)] [(42,4),(46,5),(51,4)] [] f241 h
def Sh.ey(e0:Option Addr)(m0:Sl)(m1:Sl)(m2:Sl)(m3:Sl)(q:Sl)(R:Value→TW→Prop)(w:TW):Prop:=
nwv w λw1=>
nwv w1 λw2=>
nck e0 λa=>
ldc (.ptr) w2.drew a λ(v:Option Addr)=>
nck v λa1=>
ldc (.ptr) w2.drew a1 λ(v1:Option Addr)=>
nck v1 λa2=>
ldc (.ptr) w2.drew a2 λ(v2:Option Addr)=>
nck v2 λa3=>
ldc (.ptr) w2.drew a3 λ(v3:Option Addr)=>
nck v3 λa4=>
ldc (.ptr) w2.drew a4 λ(v4:Option Addr)=>
nck v4 λa5=>
ldc (.ptr) w2.drew a5 λ(v5:Option Addr)=>
nck v5 λa6=>
ldc (.ptr) w2.drew a6 λ(v6:Option Addr)=>
nck v6 λa7=>
ldc (.ptr) w2.drew a7 λ(v7:Option Addr)=>
nck v7 λa8=>
ldc (.ptr) w2.drew a8 λ(v8:Option Addr)=>
nck e0 λa9=>
ldc (.ptr) w2.drew a9 λ(v9:Option Addr)=>
nck v9 λa10=>
ldc (.ptr) w2.drew a10 λ(v10:Option Addr)=>
nck v10 λa11=>
ldc (.ptr) w2.drew a11 λ(v11:Option Addr)=>
nck v11 λa12=>
ldc (.ptr) w2.drew a12 λ(v12:Option Addr)=>
nck v12 λa13=>
ldc (.ptr) w2.drew a13 λ(v13:Option Addr)=>
nck v13 λa14=>
ldc (.ptr) w2.drew a14 λ(v14:Option Addr)=>
nck v14 λa15=>
ldc (.ptr) w2.drew a15 λ(v15:Option Addr)=>
nck v15 λa16=>
ldc (.ptr) w2.drew a16 λ(v16:Option Addr)=>
nck v16 λa17=>
ldc (.ptr) w2.drew a17 λ(v17:Option Addr)=>
cl Pg F.bv [.pointer v8,m0.v,q.v] w2.drew [.one .slice] λ(s:Sl) w3=>
hld w3 [(a17,.pointer v17),(a16,.pointer v16),(a15,.pointer v15),(a14,.pointer v14),(a13,.pointer v13),(a12,.pointer v12),(a11,.pointer v11),(a10,.pointer v10),(a9,.pointer v9),(a7,.pointer v7),(a6,.pointer v6),(a5,.pointer v5),(a4,.pointer v4),(a3,.pointer v3),(a2,.pointer v2),(a1,.pointer v1),(a,.pointer v)] <|
cl Pg F.ek [s.v,m1.v] w3 [.one .slice] λ(s1:Sl) w4=>
hld w4 [(a17,.pointer v17),(a16,.pointer v16),(a15,.pointer v15),(a14,.pointer v14),(a13,.pointer v13),(a12,.pointer v12),(a11,.pointer v11),(a10,.pointer v10),(a9,.pointer v9),(a7,.pointer v7),(a6,.pointer v6),(a5,.pointer v5),(a4,.pointer v4),(a3,.pointer v3),(a2,.pointer v2),(a1,.pointer v1),(a,.pointer v)] <|
cl Pg F.bv [.pointer v17,m2.v,q.v] w4 [.one .slice] λ(s2:Sl) w5=>
hld w5 [(a16,.pointer v16),(a15,.pointer v15),(a14,.pointer v14),(a13,.pointer v13),(a12,.pointer v12),(a11,.pointer v11),(a10,.pointer v10),(a9,.pointer v9),(a7,.pointer v7),(a6,.pointer v6),(a5,.pointer v5),(a4,.pointer v4),(a3,.pointer v3),(a2,.pointer v2),(a1,.pointer v1),(a,.pointer v)] <|
cl Pg F.ek [s2.v,m3.v] w5 [.one .slice] λ(s3:Sl) w6=>
hld w6 [(a16,.pointer v16),(a15,.pointer v15),(a14,.pointer v14),(a13,.pointer v13),(a12,.pointer v12),(a11,.pointer v11),(a10,.pointer v10),(a9,.pointer v9),(a7,.pointer v7),(a6,.pointer v6),(a5,.pointer v5),(a4,.pointer v4),(a3,.pointer v3),(a2,.pointer v2),(a1,.pointer v1),(a,.pointer v)] <|
nwv w6 λw7=>
R (.agg #[s1.v,m0.v,s3.v,m2.v]) w7
theorem Ct.ey{q:Sl}(h:Sh.ey e0 m0 m1 m2 m3 q (Rt X [.agg [.slice,.slice,.slice,.slice]] K w) w.here):Ct Pg F.ey [.pointer e0,.agg #[m0.v,m1.v,m2.v,m3.v],q.v] w X [.agg [.slice,.slice,.slice,.slice]] K:=
 cod (Sh.ey e0 m0 m1 m2 m3 q) 82 [(4,82),(6,86)] [(82,4),(86,4)] [] f242 h
def Sh.jc(m0:Sl)(m1:Sl)(m2:Sl)(m3:Sl)(R:Value→TW→Prop)(w:TW):Prop:=
nwv w λw1=>
nwv w1 λw2=>
cl Pg F.aW [m0.v] w2.drew [.one .slice] λ(s:Sl) w3=>
cl Pg F.aW [m1.v] w3 [.one .slice] λ(s1:Sl) w4=>
cl Pg F.aW [m2.v] w4 [.one .slice] λ(s2:Sl) w5=>
cl Pg F.aW [m3.v] w5 [.one .slice] λ(s3:Sl) w6=>
nwv w6 λw7=>
R (.agg #[s.v,s1.v,s2.v,s3.v]) w7
theorem Ct.jc(h:Sh.jc m0 m1 m2 m3 (Rt X [.agg [.slice,.slice,.slice,.slice]] K w) w.here):Ct Pg F.jc [.agg #[m0.v,m1.v,m2.v,m3.v]] w X [.agg [.slice,.slice,.slice,.slice]] K:=
 cod (Sh.jc m0 m1 m2 m3) 16 [(1,16),(2,20)] [(16,4),(20,4)] [] f243 h
def Sh.jL(x:Sl)(y:Sl)(p:Int)(q:Int)(r:Int)(s:Int)(R:Value→TW→Prop)(w:TW):Prop:=
cl Pg F.cR [x.v,.int .u64 p] w [.one .slice] λ(s1:Sl) w1=>
cl Pg F.eU [s1.v,y.v,.int .u64 r] w1 [.one .slice] λ(s2:Sl) w2=>
cl Pg F.cR [x.v,.int .u64 q] w2 [.one .slice] λ(s3:Sl) w3=>
cl Pg F.eU [s3.v,y.v,.int .u64 s] w3 [.one .slice] λ(s4:Sl) w4=>
R (.tuple #[s2.v,s4.v]) w4
theorem Ct.jL{x:Sl}{y:Sl}{p:Int}{q:Int}{r:Int}{s:Int}{K:KT [.one .slice,.one .slice]}(h:Sh.jL x y p q r s (Rt X [.one .slice,.one .slice] K w) w.here):Ct Pg F.jL [x.v,y.v,.int .u64 p,.int .u64 q,.int .u64 r,.int .u64 s] w X [.one .slice,.one .slice] K:=
 cod (Sh.jL x y p q r s) 26 [] [] [] f259 h
end
section
set_option maxRecDepth 100000
open Go.Proofs.Tryz
variable {a:Sl} {w:TW} {X:Nat→Prop} {K:KT [.one .slice]} {n:Int}
def Sh.dU(e0:Option Addr)(a:Sl)(b:Sl)(inner:Value)(R:Value→TW→Prop)(w:TW):Prop:=
Jn [.slice,.slice] (λJ0=>
cond (decide (((a.n:Int):Int)<(b.n:Int))) (
J0 b a w) (
J0 a b w)) λ(a1:Sl)(b1:Sl) w1=>
bnd (wi ((a1.n:Int)+1)) λn=>
eI .i64 n 2 λn1=>
cond (decide (((b1.n:Int):Int)≤n1)) (
R (.tuple #[.slice none 0 0,.bool false]) w1) (
nck e0 λa2=>
ldc (.ptr) w1 a2 λ(v:Option Addr)=>
nck v λa3=>
ldc (.ptr) w1 a3 λ(v1:Option Addr)=>
nck v1 λa4=>
cl Pg F.bM [.pointer (some a4)] w1 [.one (.int .i64)] λ(_:Int) w2=>
cl Pg F.eZ [a1.v,.int .i64 0,.int .i64 n1] w2 [.one .slice] λ(s:Sl) w3=>
bnd (wi ((a1.n:Int)-n1)) λn2=>
cl Pg F.eZ [a1.v,.int .i64 n1,.int .i64 n2] w3 [.one .slice] λ(s1:Sl) w4=>
cl Pg F.eZ [b1.v,.int .i64 0,.int .i64 n1] w4 [.one .slice] λ(s2:Sl) w5=>
bnd (wi ((b1.n:Int)-n1)) λn3=>
cl Pg F.eZ [b1.v,.int .i64 n1,.int .i64 n3] w5 [.one .slice] λ(s3:Sl) w6=>
cl Pg F.ek [s.v,s1.v] w6 [.one .slice] λ(s4:Sl) w7=>
bnd (wi (n1+1)) λn4=>
cl Pg F.iL [s4.v,.int .i64 n4] w7 [.one .slice] λ(s5:Sl) w8=>
cl Pg F.ek [s2.v,s3.v] w8 [.one .slice] λ(s6:Sl) w9=>
bnd (wi (n1+1)) λn5=>
cl Pg F.iL [s6.v,.int .i64 n5] w9 [.one .slice] λ(s7:Sl) w10=>
clv Pg inner [s.v,s2.v] w10 [.one .slice] λ(s8:Sl) w11=>
clv Pg inner [s1.v,s3.v] w11 [.one .slice] λ(s9:Sl) w12=>
clv Pg inner [s5.v,s7.v] w12 [.one .slice] λ(s10:Sl) w13=>
nck e0 λa5=>
ldc (.ptr) w13 a5 λ(v2:Option Addr)=>
nck v2 λa6=>
ldc (.ptr) w13 a6 λ(v3:Option Addr)=>
nck v3 λa7=>
cl Pg F.bL [.pointer (some a7)] w13 [.one (.int .i64)] λ(_:Int) w14=>
cl Pg F.ek [s8.v,s9.v] w14 [.one .slice] λ(s11:Sl) w15=>
cl Pg F.dw [s10.v,s11.v] w15 [.one .slice,.one .bool] λ(s12:Sl)(_:Bool) w16=>
nwb w16 [s8.v,s12.v,s9.v] T.go λb2 w17=>
cl Pg F.fY [.int .i64 n1,.slice (some ⟨b2,0,none⟩) 3 3] w17 [.one .slice] λ(s13:Sl) w18=>
R (.tuple #[s13.v,.bool true]) w18)
theorem Ct.dU{e0:Option Addr}{b:Sl}{inner:Value}{K:KT [.one .slice,.one .bool]}(h:Sh.dU e0 a b inner (Rt X [.one .slice,.one .bool] K w) w.here):Ct Pg F.dU [.pointer e0,a.v,b.v,inner] w X [.one .slice,.one .bool] K:=
 cod (Sh.dU e0 a b inner) 117 [] [] [(1,2,[(1,.one .slice),(2,.one .slice)])] f187 h
def Sh.eZ(a:Sl)(from0:Int)(n:Int)(R:Value→TW→Prop)(w:TW):Prop:=
mks w n n T.ao 8 [.int .u64 0] λs w1=>
Jn [] (λJ0=>
cond (decide ((from0:Int)<(a.n:Int))) (
bnd (wi (from0+n)) λn1=>
bnd (if (n1:Int)<(a.n:Int) then n1 else (a.n:Int)) λn2=>
slc a from0 n2 1 λs1=>
cpy w1 T.ao s s1 λ_ w2=>
J0 w2) (
J0 w1)) fun  w3=>
R (s.v) w3
theorem Ct.eZ{from0:Int}(h:Sh.eZ a from0 n (Rt X [.one .slice] K w) w.here):Ct Pg F.eZ [a.v,.int .i64 from0,.int .i64 n] w X [.one .slice] K:=
 cod (Sh.eZ a from0 n) 26 [] [] [(1,3,[])] f217 h
def Sh.iL(a:Sl)(n:Int)(R:Value→TW→Prop)(w:TW):Prop:=
cl Pg F.eZ [a.v,.int .i64 0,.int .i64 n] w [.one .slice] λ(s:Sl) w1=>
R (s.v) w1
theorem Ct.iL(h:Sh.iL a n (Rt X [.one .slice] K w) w.here):Ct Pg F.iL [a.v,.int .i64 n] w X [.one .slice] K:=
 cod (Sh.iL a n) 8 [] [] [] f218 h
def Sh.jD(t:HL I11)(R:Value→TW→Prop)(w:TW):Prop:=
nwv w λw1=>
cl Pg F.iA [.agg (aT I11 t).toArray] w1 [.one .ptr] λ(p:Option Addr) w2=>
nwb w2 [.pointer p] T.pO λb w3=>
R (.pointer (some ⟨b,0,none⟩)) w3
theorem Ct.jD{t:HL I11}{K:KT [.one .ptr]}(h:Sh.jD t (Rt X [.one .ptr] K w) w.here):Ct Pg F.jD [.agg (aT I11 t).toArray] w X [.one .ptr] K:=
 cod (Sh.jD t) 7 [(1,7)] [(7,11)] [] f281 h
end
section
set_option maxRecDepth 100000
open Go.Proofs.Tryz
variable {a b:Sl} {w:TW} {X:Nat→Prop} {K:KT [.agg [.int .u64,.int .u64,.int .u64,.int .u64,.int .i64]]} {r0 r1 r2 r3 r4 x y:Int}
def Sh.jb(a:Sl)(b:Sl)(R:Value→TW→Prop)(w:TW):Prop:=
nwv w λw1=>
cl Pg F.cd [a.v] w1 [.one (.int .i64)] λ(r:Int) w2=>
cl Pg F.iK [a.v,.int .i64 r] w2 [.one (.int .u64)] λ(r1:Int) w3=>
cl Pg F.cd [a.v] w3 [.one (.int .i64)] λ(r2:Int) w4=>
cl Pg F.iK [b.v,.int .i64 r2] w4 [.one (.int .u64)] λ(r3:Int) w5=>
cl Pg F.iC [.int .u64 r1,.int .u64 r3] w5 [.agg [.int .u64,.int .u64,.int .u64,.int .u64,.int .i64]] λ(r4:Int)(r5:Int)(r6:Int)(r7:Int)(r8:Int) w6=>
nwv w6 λw7=>
R (.agg #[.int .u64 r4,.int .u64 r5,.int .u64 r6,.int .u64 r7,.int .i64 r8]) w7
theorem Ct.jb(h:Sh.jb a b (Rt X [.agg [.int .u64,.int .u64,.int .u64,.int .u64,.int .i64]] K w) w.here):Ct Pg F.jb [a.v,b.v] w X [.agg [.int .u64,.int .u64,.int .u64,.int .u64,.int .i64]] K:=
 cod (Sh.jb a b) 14 [(4,14)] [(14,5)] [] f133 h
def Sh.eY(r0:Int)(r1:Int)(r2:Int)(r3:Int)(r4:Int)(a:Sl)(b:Sl)(R:Value→TW→Prop)(w:TW):Prop:=
nwv w λw1=>
dY r4 2 λn=>
cond ((n:Int) == 1) (
cl Pg F.fZ [b.v,.int .u64 r1,a.v,.int .u64 r0] w1.drew [.one .slice] λ(s:Sl) w2=>
cl Pg F.fZ [a.v,.int .u64 r2,b.v,.int .u64 r3] w2 [.one .slice] λ(s1:Sl) w3=>
R (.tuple #[s.v,s1.v]) w3) (
cl Pg F.fZ [a.v,.int .u64 r0,b.v,.int .u64 r1] w1.drew [.one .slice] λ(s2:Sl) w4=>
cl Pg F.fZ [b.v,.int .u64 r3,a.v,.int .u64 r2] w4 [.one .slice] λ(s3:Sl) w5=>
R (.tuple #[s2.v,s3.v]) w5)
theorem Ct.eY{K:KT [.one .slice,.one .slice]}(h:Sh.eY r0 r1 r2 r3 r4 a b (Rt X [.one .slice,.one .slice] K w) w.here):Ct Pg F.eY [.agg #[.int .u64 r0,.int .u64 r1,.int .u64 r2,.int .u64 r3,.int .i64 r4],a.v,b.v] w X [.one .slice,.one .slice] K:=
 cod (Sh.eY r0 r1 r2 r3 r4 a b) 40 [(3,40)] [(40,5)] [] f134 h
def Sh.iC(x:Int)(y:Int)(R:Value→TW→Prop)(w:TW):Prop:=
nwv w λw1=>
nwv w1 λw2=>
nwv w2 λw3=>
Jn [.int .u64,.int .u64,.int .u64,.int .u64,.int .i64,.int .u64,.int .u64,.int .u64,.int .u64,.int .i64] (λJ0=>
Lp [.int .u64,.int .u64,.int .u64,.int .u64,.int .u64,.int .u64,.int .i64,.int .u64,.int .u64,.int .u64,.int .u64,.int .i64] (λ(x1:Int)(y1:Int)(x2:Int)(x3:Int)(x4:Int)(x5:Int)(x6:Int)(r:Int)(r1:Int)(r2:Int)(r3:Int)(r4:Int) w4 C0=>
Jn [.bool,.int .u64,.int .u64,.int .u64,.int .u64,.int .i64,.int .u64,.int .u64,.int .u64,.int .u64,.int .i64] (λJ1=>
cond (decide ((r2:Int)<1073741824)) (
J1 (decide ((r3:Int)<1073741824)) x2 x3 x4 x5 x6 r r1 r2 r3 r4 w4) (
J1 false x2 x3 x4 x5 x6 r r1 r2 r3 r4 w4)) λ(x7:Bool)(x8:Int)(x9:Int)(x10:Int)(x11:Int)(x12:Int)(r5:Int)(r6:Int)(r7:Int)(r8:Int)(r9:Int) w5=>
cond x7 (
cl Pg F.dk [.agg #[.int .u64 r5,.int .u64 r6,.int .u64 r7,.int .u64 r8,.int .i64 r9],.int .u64 x1,.int .u64 y1] w5 [.one (.int .u64),.one .bool] λ(r10:Int)(ok:Bool) w6=>
cond (!ok) (
J0 x8 x9 x10 x11 x12 r5 r6 r7 r8 r9 w6) (
bnd (wu (r10*y1)) λn=>
bnd (wu (x1-n)) λn1=>
cl Pg F.fD [.agg #[.int .u64 r5,.int .u64 r6,.int .u64 r7,.int .u64 r8,.int .i64 r9],.int .u64 r10] w6 [.agg [.int .u64,.int .u64,.int .u64,.int .u64,.int .i64]] λ(r11:Int)(r12:Int)(r13:Int)(r14:Int)(r15:Int) w7=>
nwv w7 λw8=>
C0 y1 n1 x8 x9 x10 x11 x12 r11 r12 r13 r14 r15 w8)) (
J0 x8 x9 x10 x11 x12 r5 r6 r7 r8 r9 w5)) x y 0 0 0 0 0 1 0 0 1 0 w3) λ(_:Int)(_:Int)(_:Int)(_:Int)(_:Int)(r16:Int)(r17:Int)(r18:Int)(r19:Int)(r20:Int) w9=>
nwv w9 λw10=>
R (.agg #[.int .u64 r16,.int .u64 r17,.int .u64 r18,.int .u64 r19,.int .i64 r20]) w10
theorem Ct.iC(h:Sh.iC x y (Rt X [.agg [.int .u64,.int .u64,.int .u64,.int .u64,.int .i64]] K w) w.here):Ct Pg F.iC [.int .u64 x,.int .u64 y] w X [.agg [.int .u64,.int .u64,.int .u64,.int .u64,.int .i64]] K:=
 cod (Sh.iC x y) 36 [(4,36),(5,41)] [(36,5),(41,5)] [(2,0,[(36,.one (.int .u64)),(37,.one (.int .u64)),(38,.one (.int .u64)),(39,.one (.int .u64)),(40,.one (.int .i64)),(41,.one (.int .u64)),(42,.one (.int .u64)),(43,.one (.int .u64)),(44,.one (.int .u64)),(45,.one (.int .i64))]),(3,2,[(0,.one (.int .u64)),(1,.one (.int .u64)),(36,.one (.int .u64)),(37,.one (.int .u64)),(38,.one (.int .u64)),(39,.one (.int .u64)),(40,.one (.int .i64)),(41,.one (.int .u64)),(42,.one (.int .u64)),(43,.one (.int .u64)),(44,.one (.int .u64)),(45,.one (.int .i64))]),(0,2,[(16,.one .bool),(36,.one (.int .u64)),(37,.one (.int .u64)),(38,.one (.int .u64)),(39,.one (.int .u64)),(40,.one (.int .i64)),(41,.one (.int .u64)),(42,.one (.int .u64)),(43,.one (.int .u64)),(44,.one (.int .u64)),(45,.one (.int .i64))])] f166 h
def Sh.iK(a:Sl)(digits:Int)(R:Value→TW→Prop)(w:TW):Prop:=
bnd (wi (digits-62)) λn=>
bnd (if (n:Int)>0 then n else 0) λn1=>
cl Pg F.eR [a.v,.int .i64 n1] w [.one .slice] λ(s:Sl) w1=>
cl Pg F.az [s.v] w1 [.one .bool] λ(ok:Bool) w2=>
cond ok (
R (.int .u64 0) w2) (
ixa s 0 1 λa1=>
ldc (.int .u64) w2 a1 λ(v:Int)=>
R (.int .u64 v) w2)
theorem Ct.iK{digits:Int}{K:KT [.one (.int .u64)]}(h:Sh.iK a digits (Rt X [.one (.int .u64)] K w) w.here):Ct Pg F.iK [a.v,.int .i64 digits] w X [.one (.int .u64)] K:=
 cod (Sh.iK a digits) 16 [] [] [] f167 h
def Sh.fZ(a:Sl)(p:Int)(b:Sl)(q:Int)(R:Value→TW→Prop)(w:TW):Prop:=
cl Pg F.cR [a.v,.int .u64 p] w [.one .slice] λ(s:Sl) w1=>
cl Pg F.gJ [s.v,b.v,.int .u64 q] w1 [.one .slice,.one .bool] λ(s1:Sl)(_:Bool) w2=>
R (s1.v) w2
theorem Ct.fZ{p:Int}{q:Int}{K:KT [.one .slice]}(h:Sh.fZ a p b q (Rt X [.one .slice] K w) w.here):Ct Pg F.fZ [a.v,.int .u64 p,b.v,.int .u64 q] w X [.one .slice] K:=
 cod (Sh.fZ a p b q) 21 [] [] [] f168 h
def Sh.dk(r0:Int)(r1:Int)(r2:Int)(r3:Int)(r4:Int)(x:Int)(y:Int)(R:Value→TW→Prop)(w:TW):Prop:=
nwv w λw1=>
dY r4 2 λn=>
Jn [.int .u64,.int .u64,.int .u64,.int .u64] (λJ0=>
cond ((n:Int) == 1) (
J0 r0 r1 r3 r2 w1.drew.drew) (
J0 r1 r0 r2 r3 w1.drew)) λ(lessX:Int)(moreX:Int)(lessY:Int)(moreY:Int) w2=>
Jn [.bool] (λJ1=>
cond (decide ((x:Int)<lessX)) (
J1 true w2) (
J1 (decide ((y:Int)≤lessY)) w2)) λ(x1:Bool) w3=>
cond x1 (
R (.tuple #[.int .u64 0,.bool false]) w3) (
bnd (wu (x-lessX)) λn1=>
bnd (wu (y+moreY)) λn2=>
eI .u64 n1 n2 λn3=>
bnd (wu (x+moreX)) λn4=>
bnd (wu (y-lessY)) λn5=>
eI .u64 n4 n5 λn6=>
Jn [.int .u64,.bool] (λJ2=>
cond ((n3:Int) == n6) (
J2 n3 (decide ((n3:Int)<2147483648)) w3.drew) (
J2 n3 false w3.drew)) λ(x2:Int)(x3:Bool) w4=>
R (.tuple #[.int .u64 x2,.bool x3]) w4)
theorem Ct.dk{K:KT [.one (.int .u64),.one .bool]}(h:Sh.dk r0 r1 r2 r3 r4 x y (Rt X [.one (.int .u64),.one .bool] K w) w.here):Ct Pg F.dk [.agg #[.int .u64 r0,.int .u64 r1,.int .u64 r2,.int .u64 r3,.int .i64 r4],.int .u64 x,.int .u64 y] w X [.one (.int .u64),.one .bool] K:=
 cod (Sh.dk r0 r1 r2 r3 r4 x y) 64 [(3,64)] [(64,5)] [(1,3,[(8,.one (.int .u64)),(9,.one (.int .u64)),(10,.one (.int .u64)),(11,.one (.int .u64))]),(0,4,[(41,.one .bool)]),(0,7,[(6,.one (.int .u64)),(7,.one .bool)])] f199 h
def Sh.fD(r0:Int)(r1:Int)(r2:Int)(r3:Int)(r4:Int)(k:Int)(R:Value→TW→Prop)(w:TW):Prop:=
nwv w λw1=>
nwv w1 λw2=>
bnd (wu (k*r2)) λn=>
bnd (wu (r0+n)) λn1=>
bnd (wu (k*r3)) λn2=>
bnd (wu (r1+n2)) λn3=>
bnd (wi (r4+1)) λn4=>
nwv w2 λw3=>
R (.agg #[.int .u64 r2,.int .u64 r3,.int .u64 n1,.int .u64 n3,.int .i64 n4]) w3
theorem Ct.fD{k:Int}(h:Sh.fD r0 r1 r2 r3 r4 k (Rt X [.agg [.int .u64,.int .u64,.int .u64,.int .u64,.int .i64]] K w) w.here):Ct Pg F.fD [.agg #[.int .u64 r0,.int .u64 r1,.int .u64 r2,.int .u64 r3,.int .i64 r4],.int .u64 k] w X [.agg [.int .u64,.int .u64,.int .u64,.int .u64,.int .i64]] K:=
 cod (Sh.fD r0 r1 r2 r3 r4 k) 27 [(2,27),(4,32)] [(27,5),(32,5)] [] f200 h
end
section
set_option maxRecDepth 100000
open Go.Proofs.Tryz
variable {n y:Int} {w:TW} {X:Nat→Prop} {K:KT [.one .slice]} {a b:Sl}
def Sh.bZ(y:Int)(R:Value→TW→Prop)(w:TW):Prop:=
cond ((y:Int) == 0) (
R (.slice none 0 0) w) (
nwb w [.int .u64 y] T.ao λb w1=>
R (.slice (some ⟨b,0,none⟩) 1 1) w1)
theorem Ct.bZ(h:Sh.bZ y (Rt X [.one .slice] K w) w.here):Ct Pg F.bZ [.int .u64 y] w X [.one .slice] K:=
 cod (Sh.bZ y) 7 [] [] [] f66 h
def Sh.fF(a:Sl)(b:Sl)(R:Value→TW→Prop)(w:TW):Prop:=
cl Pg F.aS [a.v] w [.one (.int .i64)] λ(r:Int) w1=>
cl Pg F.aS [b.v] w1 [.one (.int .i64)] λ(r1:Int) w2=>
cond ((r:Int) != r1) (
cond (decide ((r:Int)<r1)) (
R (.int .i64 (-1)) w2) (
R (.int .i64 1) w2)) (
bnd (wi (r-1)) λn=>
Jn [] (λJ0=>
Lp [.int .i64] (λ(i:Int) w3 C0=>
cond (decide ((i:Int)≥0)) (
ixa a i 1 λa1=>
ldc (.int .u64) w3.drew a1 λ(v:Int)=>
ixa b i 1 λa2=>
ldc (.int .u64) w3.drew a2 λ(v1:Int)=>
cond ((v:Int) != v1) (
ixa a i 1 λa3=>
ldc (.int .u64) w3.drew.drew a3 λ(v2:Int)=>
ixa b i 1 λa4=>
ldc (.int .u64) w3.drew.drew a4 λ(v3:Int)=>
cond (decide ((v2:Int)<v3)) (
R (.int .i64 (-1)) w3.drew.drew) (
R (.int .i64 1) w3.drew.drew)) (
bnd (wi (i-1)) λn1=>
C0 n1 w3.drew)) (
J0 w3)) n w2) fun  w4=>
R (.int .i64 0) w4)
theorem Ct.fF{K:KT [.one (.int .i64)]}(h:Sh.fF a b (Rt X [.one (.int .i64)] K w) w.here):Ct Pg F.fF [a.v,b.v] w X [.one (.int .i64)] K:=
 cod (Sh.fF a b) 42 [] [] [(2,0,[]),(3,7,[(7,.one (.int .i64))])] f94 h
def Sh.aW(a:Sl)(R:Value→TW→Prop)(w:TW):Prop:=
cl Pg F.aK [a.v] w [.one .slice] λ(s:Sl) w1=>
apd w1 T.ao 1 8 Sl.nil s λs1 w2=>
R (s1.v) w2
theorem Ct.aW(h:Sh.aW a (Rt X [.one .slice] K w) w.here):Ct Pg F.aW [a.v] w X [.one .slice] K:=
 cod (Sh.aW a) 6 [] [] [] f99 h
def Sh.cR(a:Sl)(y:Int)(R:Value→TW→Prop)(w:TW):Prop:=
cl Pg F.eU [.slice none 0 0,a.v,.int .u64 y] w [.one .slice] λ(s:Sl) w1=>
R (s.v) w1
theorem Ct.cR(h:Sh.cR a y (Rt X [.one .slice] K w) w.here):Ct Pg F.cR [a.v,.int .u64 y] w X [.one .slice] K:=
 cod (Sh.cR a y) 8 [] [] [] f119 h
def Sh.aK(a:Sl)(R:Value→TW→Prop)(w:TW):Prop:=
cl Pg F.aS [a.v] w [.one (.int .i64)] λ(r:Int) w1=>
slc a 0 r 1 λs=>
R (s.v) w1
theorem Ct.aK(h:Sh.aK a (Rt X [.one .slice] K w) w.here):Ct Pg F.aK [a.v] w X [.one .slice] K:=
 cod (Sh.aK a) 7 [] [] [] f121 h
def Sh.ek(a:Sl)(b:Sl)(R:Value→TW→Prop)(w:TW):Prop:=
cl Pg F.aK [a.v] w [.one .slice] λ(s:Sl) w1=>
cl Pg F.aK [b.v] w1 [.one .slice] λ(s1:Sl) w2=>
Jn [.slice,.slice] (λJ0=>
cond (decide (((s.n:Int):Int)<(s1.n:Int))) (
J0 s1 s w2) (
J0 s s1 w2)) λ(a1:Sl)(b1:Sl) w3=>
bnd (wi ((a1.n:Int)+1)) λn=>
mks w3 n n T.ao 8 [.int .u64 0] λs2 w4=>
Jn [.int .u64] (λJ1=>
Lp [.int .u64,.int .i64] (λ(c:Int)(x:Int) w5 C0=>
cond (decide ((x:Int)<(a1.n:Int))) (
Jn [.int .u64] (λJ2=>
cond (decide ((x:Int)<(b1.n:Int))) (
ixa b1 x 1 λa2=>
ldc (.int .u64) w5 a2 λ(v:Int)=>
J2 v w5) (
J2 0 w5)) λ(y:Int) w6=>
ixa a1 x 1 λa3=>
ldc (.int .u64) w6 a3 λ(v1:Int)=>
gf v1 y c λs3 c1=>
ixa s2 x 1 λa4=>
stc w6 a4 (.int .u64 s3) λw7=>
bnd (wi (x+1)) λn1=>
C0 c1 n1 w7) (
J1 c w5)) 0 0 w4) λ(c2:Int) w8=>
ixa s2 (a1.n:Int) 1 λa5=>
stc w8 a5 (.int .u64 c2) λw9=>
cl Pg F.aK [s2.v] w9 [.one .slice] λ(s4:Sl) w10=>
R (s4.v) w10
theorem Ct.ek(h:Sh.ek a b (Rt X [.one .slice] K w) w.here):Ct Pg F.ek [a.v,b.v] w X [.one .slice] K:=
 cod (Sh.ek a b) 58 [] [] [(1,3,[(0,.one .slice),(1,.one .slice)]),(2,0,[(6,.one (.int .u64))]),(3,7,[(6,.one (.int .u64)),(26,.one (.int .i64))]),(1,11,[(8,.one (.int .u64))])] f124 h
def Sh.dw(a:Sl)(b:Sl)(R:Value→TW→Prop)(w:TW):Prop:=
cl Pg F.aK [a.v] w [.one .slice] λ(s:Sl) w1=>
cl Pg F.aK [b.v] w1 [.one .slice] λ(s1:Sl) w2=>
cl Pg F.fF [s.v,s1.v] w2 [.one (.int .i64)] λ(r:Int) w3=>
cond (decide ((r:Int)<0)) (
R (.tuple #[.slice none 0 0,.bool false]) w3) (
mks w3 (s.n:Int) (s.n:Int) T.ao 8 [.int .u64 0] λs2 w4=>
Jn [] (λJ0=>
Lp [.int .u64,.int .i64] (λ(c:Int)(x:Int) w5 C0=>
cond (decide ((x:Int)<(s.n:Int))) (
Jn [.int .u64] (λJ1=>
cond (decide ((x:Int)<(s1.n:Int))) (
ixa s1 x 1 λa1=>
ldc (.int .u64) w5 a1 λ(v:Int)=>
J1 v w5) (
J1 0 w5)) λ(y:Int) w6=>
ixa s x 1 λa2=>
ldc (.int .u64) w6 a2 λ(v1:Int)=>
ka v1 y c λs3 c1=>
ixa s2 x 1 λa3=>
stc w6 a3 (.int .u64 s3) λw7=>
bnd (wi (x+1)) λn=>
C0 c1 n w7) (
J0 w5)) 0 0 w4) fun  w8=>
cl Pg F.aK [s2.v] w8 [.one .slice] λ(s4:Sl) w9=>
R (.tuple #[s4.v,.bool true]) w9)
theorem Ct.dw{K:KT [.one .slice,.one .bool]}(h:Sh.dw a b (Rt X [.one .slice,.one .bool] K w) w.here):Ct Pg F.dw [a.v,b.v] w X [.one .slice,.one .bool] K:=
 cod (Sh.dw a b) 50 [] [] [(2,0,[]),(3,7,[(7,.one (.int .u64)),(23,.one (.int .i64))]),(1,11,[(9,.one (.int .u64))])] f125 h
def Sh.eR(a:Sl)(n:Int)(R:Value→TW→Prop)(w:TW):Prop:=
cl Pg F.eT [.int .i64 n,.int .i64 1048576] w [.one (.int .i64)] λ(r:Int) w1=>
cl Pg F.aK [a.v] w1 [.one .slice] λ(s:Sl) w2=>
eI .i64 r 64 λn1=>
dY r 64 λn2=>
bnd (wu (n2)) λn3=>
cond (decide ((n1:Int)≥(s.n:Int))) (
R (.slice none 0 0) w2) (
bnd (wi ((s.n:Int)-n1)) λn4=>
mks w2 n4 n4 T.ao 8 [.int .u64 0] λs1 w3=>
Jn [] (λJ0=>
Lp [.int .i64] (λ(x:Int) w4 C0=>
cond (decide ((x:Int)<(s1.n:Int))) (
bnd (wi (x+n1)) λn5=>
ixa s n5 1 λa1=>
ldc (.int .u64) w4 a1 λ(v:Int)=>
gc .u64 v n3 λn6=>
ixa s1 x 1 λa2=>
stc w4 a2 (.int .u64 n6) λw5=>
Jn [.bool] (λJ1=>
cond (decide ((n3:Int)>0)) (
bnd (wi (x+n1)) λn7=>
bnd (wi (n7+1)) λn8=>
J1 (decide ((n8:Int)<(s.n:Int))) w5) (
J1 false w5)) λ(x1:Bool) w6=>
Jn [] (λJ2=>
cond x1 (
ixa s1 x 1 λa3=>
ldc (.int .u64) w6.drew a3 λ(v1:Int)=>
bnd (wi (x+n1)) λn9=>
bnd (wi (n9+1)) λn10=>
ixa s n10 1 λa4=>
ldc (.int .u64) w6.drew a4 λ(v2:Int)=>
bnd (wu (64-n3)) λn11=>
ju .u64 v2 n11 λn12=>
bnd (bh .or .u64 v1 n12) λn13=>
ixa s1 x 1 λa5=>
stc w6.drew a5 (.int .u64 n13) λw7=>
J2 w7) (
J2 w6)) fun  w8=>
bnd (wi (x+1)) λn14=>
C0 n14 w8) (
J0 w4)) 0 w3) fun  w9=>
cl Pg F.aK [s1.v] w9 [.one .slice] λ(s2:Sl) w10=>
R (s2.v) w10)
theorem Ct.eR(h:Sh.eR a n (Rt X [.one .slice] K w) w.here):Ct Pg F.eR [a.v,.int .i64 n] w X [.one .slice] K:=
 cod (Sh.eR a n) 75 [] [] [(2,0,[]),(3,8,[(29,.one (.int .i64))]),(0,11,[(53,.one .bool)]),(1,12,[])] f136 h
def Sh.dT(a:Sl)(n:Int)(R:Value→TW→Prop)(w:TW):Prop:=
cl Pg F.eT [.int .i64 n,.int .i64 1048576] w [.one (.int .i64)] λ(r:Int) w1=>
cl Pg F.aK [a.v] w1 [.one .slice] λ(s:Sl) w2=>
cond (((s.n:Int):Int) == 0) (
R (.slice none 0 0) w2) (
eI .i64 r 64 λn1=>
dY r 64 λn2=>
bnd (wu (n2)) λn3=>
bnd (wi ((s.n:Int)+n1)) λn4=>
bnd (wi (n4+1)) λn5=>
mks w2 n5 n5 T.ao 8 [.int .u64 0] λs1 w3=>
Jn [] (λJ0=>
Lp [.int .i64] (λ(x:Int) w4 C0=>
cond (decide ((x:Int)<(s.n:Int))) (
ixa s x 1 λa1=>
ldc (.int .u64) w4 a1 λ(v:Int)=>
bnd (wi (x+n1)) λn6=>
bnd (wi (x+n1)) λn7=>
ixa s1 n7 1 λa2=>
ldc (.int .u64) w4 a2 λ(v1:Int)=>
ju .u64 v n3 λn8=>
bnd (bh .or .u64 v1 n8) λn9=>
ixa s1 n6 1 λa3=>
stc w4 a3 (.int .u64 n9) λw5=>
Jn [] (λJ1=>
cond (decide ((n3:Int)>0)) (
bnd (wi (x+n1)) λn10=>
bnd (wi (n10+1)) λn11=>
bnd (wu (64-n3)) λn12=>
gc .u64 v n12 λn13=>
ixa s1 n11 1 λa4=>
stc w5 a4 (.int .u64 n13) λw6=>
J1 w6) (
J1 w5)) fun  w7=>
bnd (wi (x+1)) λn14=>
C0 n14 w7) (
J0 w4)) 0 w3) fun  w8=>
cl Pg F.aK [s1.v] w8 [.one .slice] λ(s2:Sl) w9=>
R (s2.v) w9)
theorem Ct.dT(h:Sh.dT a n (Rt X [.one .slice] K w) w.here):Ct Pg F.dT [a.v,.int .i64 n] w X [.one .slice] K:=
 cod (Sh.dT a n) 65 [] [] [(2,0,[]),(3,8,[(30,.one (.int .i64))]),(1,12,[])] f137 h
def Sh.dx(a:Sl)(y:Int)(R:Value→TW→Prop)(w:TW):Prop:=
cond ((y:Int) == 0) (
R (.tuple #[.slice none 0 0,.int .u64 0,.int .i64 2]) w) (
cl Pg F.aK [a.v] w [.one .slice] λ(s:Sl) w1=>
mks w1 (s.n:Int) (s.n:Int) T.ao 8 [.int .u64 0] λs1 w2=>
bnd (wi ((s.n:Int)-1)) λn=>
Jn [.int .u64] (λJ0=>
Lp [.int .u64,.int .i64] (λ(r:Int)(i:Int) w3 C0=>
cond (decide ((i:Int)≥0)) (
ixa s i 1 λa1=>
ldc (.int .u64) w3 a1 λ(v:Int)=>
cl Pg F.ez [.int .u64 r,.int .u64 v,.int .u64 y] w3 [.one (.int .u64),.one (.int .u64)] λ(r1:Int)(r2:Int) w4=>
ixa s1 i 1 λa2=>
stc w4 a2 (.int .u64 r1) λw5=>
bnd (wi (i-1)) λn1=>
C0 r2 n1 w5) (
J0 r w3)) 0 n w2) λ(r3:Int) w6=>
cl Pg F.aK [s1.v] w6 [.one .slice] λ(s2:Sl) w7=>
R (.tuple #[s2.v,.int .u64 r3,.int .i64 0]) w7)
theorem Ct.dx{K:KT [.one .slice,.one (.int .u64),.one (.int .i64)]}(h:Sh.dx a y (Rt X [.one .slice,.one (.int .u64),.one (.int .i64)] K w) w.here):Ct Pg F.dx [a.v,.int .u64 y] w X [.one .slice,.one (.int .u64),.one (.int .i64)] K:=
 cod (Sh.dx a y) 40 [] [] [(2,0,[(8,.one (.int .u64))]),(3,7,[(8,.one (.int .u64)),(9,.one (.int .i64))])] f149 h
def Sh.eU(a:Sl)(b:Sl)(y:Int)(R:Value→TW→Prop)(w:TW):Prop:=
cl Pg F.aK [a.v] w [.one .slice] λ(s:Sl) w1=>
cl Pg F.aK [b.v] w1 [.one .slice] λ(s1:Sl) w2=>
bnd (wi ((s1.n:Int)+1)) λn=>
bnd (if (n:Int)>(s.n:Int) then n else (s.n:Int)) λn1=>
bnd (wi (n1+1)) λn2=>
mks w2 n2 n2 T.ao 8 [.int .u64 0] λs2 w3=>
cpy w3 T.ao s2 s λ_ w4=>
Jn [] (λJ0=>
Lp [.int .u64,.int .i64] (λ(c:Int)(x:Int) w5 C0=>
cond (decide ((x:Int)<(s2.n:Int))) (
Jn [.bool] (λJ1=>
cond (decide ((x:Int)≥(s1.n:Int))) (
J1 ((c:Int) == 0) w5) (
J1 false w5)) λ(x1:Bool) w6=>
cond x1 (
J0 w6) (
Jn [.int .u64,.int .u64] (λJ2=>
cond (decide ((x:Int)<(s1.n:Int))) (
ixa s1 x 1 λa1=>
ldc (.int .u64) w6 a1 λ(v:Int)=>
cl Pg F.aJ [.int .u64 v,.int .u64 y] w6 [.one (.int .u64),.one (.int .u64)] λ(r:Int)(r1:Int) w7=>
J2 r r1 w7) (
J2 0 0 w6)) λ(hi:Int)(lo:Int) w8=>
gf lo c 0 λs3 c1=>
bnd (wu (hi+c1)) λn4=>
ixa s2 x 1 λa2=>
ldc (.int .u64) w8 a2 λ(v1:Int)=>
gf v1 s3 0 λs4 c2=>
ixa s2 x 1 λa3=>
stc w8 a3 (.int .u64 s4) λw9=>
bnd (wu (n4+c2)) λn5=>
bnd (wi (x+1)) λn6=>
C0 n5 n6 w9)) (
J0 w5)) 0 0 w4) fun  w10=>
cl Pg F.aK [s2.v] w10 [.one .slice] λ(s5:Sl) w11=>
R (s5.v) w11
theorem Ct.eU(h:Sh.eU a b y (Rt X [.one .slice] K w) w.here):Ct Pg F.eU [a.v,b.v,.int .u64 y] w X [.one .slice] K:=
 cod (Sh.eU a b y) 82 [] [] [(2,0,[]),(3,6,[(8,.one (.int .u64)),(31,.one (.int .i64))]),(0,8,[(41,.one .bool)]),(1,11,[(10,.one (.int .u64)),(11,.one (.int .u64))])] f151 h
def Sh.fY(k:Int)(parts:Sl)(R:Value→TW→Prop)(w:TW):Prop:=
cl Pg F.eT [.int .i64 k,.int .i64 16384] w [.one (.int .i64)] λ(r:Int) w1=>
Jn [.int .i64] (λJ0=>
Lp [.int .i64,.int .i64] (λ(n:Int)(x:Int) w2 C0=>
cond (decide ((x:Int)<(parts.n:Int))) (
ixa parts x 1 λa=>
ldc (.slice) w2 a λ(v:Sl)=>
cl Pg F.aS [v.v] w2 [.one (.int .i64)] λ(r1:Int) w3=>
Jn [.int .i64] (λJ1=>
cond (decide ((r1:Int)>0)) (
bnd (wi (r*x)) λn1=>
bnd (wi (n1+r1)) λn2=>
bnd (if (n2:Int)>n then n2 else n) λn3=>
J1 n3 w3) (
J1 n w3)) λ(n4:Int) w4=>
bnd (wi (x+1)) λn5=>
C0 n4 n5 w4) (
J0 n w2)) 0 0 w1) λ(n6:Int) w5=>
bnd (wi (n6+2)) λn7=>
mks w5 n7 n7 T.ao 8 [.int .u64 0] λs w6=>
Jn [] (λJ2=>
Lp [.int .i64] (λ(x1:Int) w7 C1=>
cond (decide ((x1:Int)<(parts.n:Int))) (
ixa parts x1 1 λa1=>
ldc (.slice) w7 a1 λ(v1:Sl)=>
cl Pg F.aK [v1.v] w7 [.one .slice] λ(s1:Sl) w8=>
Jn [] (λJ3=>
Lp [.int .u64,.int .i64] (λ(c:Int)(j:Int) w9 C2=>
Jn [.bool] (λJ4=>
cond (decide ((j:Int)<(s1.n:Int))) (
J4 true w9) (
J4 (decide ((c:Int)>0)) w9)) λ(x2:Bool) w10=>
cond x2 (
Jn [.int .u64] (λJ5=>
cond (decide ((j:Int)<(s1.n:Int))) (
ixa s1 j 1 λa2=>
ldc (.int .u64) w10 a2 λ(v2:Int)=>
J5 v2 w10) (
J5 0 w10)) λ(y:Int) w11=>
bnd (wi (r*x1)) λn8=>
bnd (wi (n8+j)) λn9=>
bnd (wi (r*x1)) λn10=>
bnd (wi (n10+j)) λn11=>
ixa s n11 1 λa3=>
ldc (.int .u64) w11 a3 λ(v3:Int)=>
gf v3 y c λs2 c1=>
ixa s n9 1 λa4=>
stc w11 a4 (.int .u64 s2) λw12=>
bnd (wi (j+1)) λn12=>
C2 c1 n12 w12) (
J3 w10)) 0 0 w8) fun  w13=>
bnd (wi (x1+1)) λn13=>
C1 n13 w13) (
J2 w7)) 0 w6) fun  w14=>
cl Pg F.aK [s.v] w14 [.one .slice] λ(s3:Sl) w15=>
R (s3.v) w15
theorem Ct.fY{k:Int}{parts:Sl}(h:Sh.fY k parts (Rt X [.one .slice] K w) w.here):Ct Pg F.fY [.int .i64 k,parts.v] w X [.one .slice] K:=
 cod (Sh.fY k parts) 90 [] [] [(2,0,[(5,.one (.int .i64))]),(3,4,[(5,.one (.int .i64)),(19,.one (.int .i64))]),(1,8,[(5,.one (.int .i64))]),(2,2,[]),(3,12,[(41,.one (.int .i64))]),(2,4,[]),(3,17,[(12,.one (.int .u64)),(13,.one (.int .i64))]),(0,17,[(55,.one .bool)]),(1,21,[(14,.one (.int .u64))])] f163 h
def Sh.eT(n:Int)(most:Int)(R:Value→TW→Prop)(w:TW):Prop:=
bnd (if (most:Int)<n then most else n) λn1=>
bnd (if (n1:Int)>0 then n1 else 0) λn2=>
R (.int .i64 n2) w
theorem Ct.eT{most:Int}{K:KT [.one (.int .i64)]}(h:Sh.eT n most (Rt X [.one (.int .i64)] K w) w.here):Ct Pg F.eT [.int .i64 n,.int .i64 most] w X [.one (.int .i64)] K:=
 cod (Sh.eT n most) 9 [] [] [] f170 h
def Sh.jC(a:Sl)(n:Int)(R:Value→TW→Prop)(w:TW):Prop:=
cl Pg F.eT [.int .i64 n,.int .i64 1048576] w [.one (.int .i64)] λ(r:Int) w1=>
cl Pg F.aK [a.v] w1 [.one .slice] λ(s:Sl) w2=>
eI .i64 r 64 λn1=>
dY r 64 λn2=>
bnd (wu (n2)) λn3=>
cond (decide ((n1:Int)≥(s.n:Int))) (
apd w2 T.ao 1 8 Sl.nil s λs1 w3=>
R (s1.v) w3) (
slc s 0 n1 1 λs2=>
apd w2 T.ao 1 8 Sl.nil s2 λs3 w4=>
Jn [.slice] (λJ0=>
cond (decide ((n3:Int)>0)) (
ixa s n1 1 λa1=>
ldc (.int .u64) w4 a1 λ(v:Int)=>
ju .u64 1 n3 λn4=>
bnd (wu (n4-1)) λn5=>
bnd (bh .and .u64 v n5) λn6=>
nwb w4 [.int .u64 n6] T.ao λb w5=>
apd w5 T.ao 1 8 s3 ⟨(some ⟨b,0,none⟩),1,1⟩ λs4 w6=>
J0 s4 w6) (
J0 s3 w4)) λ(out:Sl) w7=>
cl Pg F.aK [out.v] w7 [.one .slice] λ(s5:Sl) w8=>
R (s5.v) w8)
theorem Ct.jC(h:Sh.jC a n (Rt X [.one .slice] K w) w.here):Ct Pg F.jC [a.v,.int .i64 n] w X [.one .slice] K:=
 cod (Sh.jC a n) 42 [] [] [(1,8,[(7,.one .slice)])] f172 h
def Sh.gJ(a:Sl)(b:Sl)(y:Int)(R:Value→TW→Prop)(w:TW):Prop:=
cl Pg F.cR [b.v,.int .u64 y] w [.one .slice] λ(s:Sl) w1=>
cl Pg F.dw [a.v,s.v] w1 [.one .slice,.one .bool] λ(s1:Sl)(ok:Bool) w2=>
R (.tuple #[s1.v,.bool ok]) w2
theorem Ct.gJ{K:KT [.one .slice,.one .bool]}(h:Sh.gJ a b y (Rt X [.one .slice,.one .bool] K w) w.here):Ct Pg F.gJ [a.v,b.v,.int .u64 y] w X [.one .slice,.one .bool] K:=
 cod (Sh.gJ a b y) 15 [] [] [] f201 h
def Sh.jm(l:Sl)(R:Value→TW→Prop)(w:TW):Prop:=
cl Pg F.fY [.int .i64 0,l.v] w [.one .slice] λ(s:Sl) w1=>
R (s.v) w1
theorem Ct.jm{l:Sl}(h:Sh.jm l (Rt X [.one .slice] K w) w.here):Ct Pg F.jm [l.v] w X [.one .slice] K:=
 cod (Sh.jm l) 5 [] [] [] f246 h
end
section
set_option maxRecDepth 100000
open Go.Proofs.Tryz
variable {m:Option Addr} {w:TW} {X:Nat→Prop} {K:KT [.one (.int .i64)]}
def Sh.aO(m:Option Addr)(n:Int)(R:Value→TW→Prop)(w:TW):Prop:=
Jn [] (λJ0=>
cond (decide ((n:Int)>0)) (
nck m λa=>
ldc (.int .i64) w a λ(v:Int)=>
bnd (wi (v+n)) λn1=>
nck m λa1=>
stc w a1 (.int .i64 n1) λw1=>
J0 w1) (
J0 w)) fun  w2=>
nck m λa2=>
ldc (.int .i64) w2 a2 λ(v1:Int)=>
R (.int .i64 v1) w2
theorem Ct.aO{n:Int}(h:Sh.aO m n (Rt X [.one (.int .i64)] K w) w.here):Ct Pg F.aO [.pointer m,.int .i64 n] w X [.one (.int .i64)] K:=
 cod (Sh.aO m n) 20 [] [] [(1,2,[])] f147 h
def Sh.dS(m:Option Addr)(R:Value→TW→Prop)(w:TW):Prop:=
nck m λa=>
ldc (.int .i64) w a λ(v:Int)=>
R (.int .i64 v) w
theorem Ct.dS(h:Sh.dS m (Rt X [.one (.int .i64)] K w) w.here):Ct Pg F.dS [.pointer m] w X [.one (.int .i64)] K:=
 cod (Sh.dS m) 7 [] [] [] f148 h
def Sh.bM(m:Option Addr)(R:Value→TW→Prop)(w:TW):Prop:=
nck m λa=>
ldc (.int .i64) w (a.add 1) λ(v:Int)=>
bnd (wi (v+1)) λn=>
nck m λa1=>
stc w (a1.add 1) (.int .i64 n) λw1=>
nck m λa2=>
ldc (.int .i64) w1.drew (a2.add 2) λ(v1:Int)=>
nck m λa3=>
ldc (.int .i64) w1.drew (a3.add 1) λ(v2:Int)=>
bnd (if (v2:Int)>v1 then v2 else v1) λn1=>
nck m λa4=>
stc w1.drew (a4.add 2) (.int .i64 n1) λw2=>
nck m λa5=>
ldc (.int .i64) w2 (a5.add 1) λ(v3:Int)=>
R (.int .i64 v3) w2
theorem Ct.bM(h:Sh.bM m (Rt X [.one (.int .i64)] K w) w.here):Ct Pg F.bM [.pointer m] w X [.one (.int .i64)] K:=
 cod (Sh.bM m) 26 [] [] [] f194 h
def Sh.bL(m:Option Addr)(R:Value→TW→Prop)(w:TW):Prop:=
nck m λa=>
ldc (.int .i64) w (a.add 1) λ(v:Int)=>
Jn [] (λJ0=>
cond (decide ((v:Int)>0)) (
nck m λa1=>
ldc (.int .i64) w (a1.add 1) λ(v1:Int)=>
bnd (wi (v1-1)) λn=>
nck m λa2=>
stc w (a2.add 1) (.int .i64 n) λw1=>
J0 w1) (
J0 w)) fun  w2=>
nck m λa3=>
ldc (.int .i64) w2 (a3.add 1) λ(v2:Int)=>
R (.int .i64 v2) w2
theorem Ct.bL(h:Sh.bL m (Rt X [.one (.int .i64)] K w) w.here):Ct Pg F.bL [.pointer m] w X [.one (.int .i64)] K:=
 cod (Sh.bL m) 19 [] [] [(1,2,[])] f197 h
end
section
set_option maxRecDepth 100000
open Go.Proofs.Tryz
variable {w:TW} {X:Nat→Prop} {K:KT [.one .slice,.one (.int .i64)]} {e0:Option Addr} {m:Sl}
def Sh.jB(t:HL I11)(R:Value→TW→Prop)(w:TW):Prop:=
nwv w λw1=>
cl Pg F.jU [.agg (aT I11 t).toArray] w1 [.one .ptr] λ(p:Option Addr) w2=>
nwb w2 [.pointer p] T.uY λb w3=>
R (.pointer (some ⟨b,0,none⟩)) w3
theorem Ct.jB{t:HL I11}{K:KT [.one .ptr]}(h:Sh.jB t (Rt X [.one .ptr] K w) w.here):Ct Pg F.jB [.agg (aT I11 t).toArray] w X [.one .ptr] K:=
 cod (Sh.jB t) 7 [(1,7)] [(7,11)] [] f108 h
def Sh.cQ(e0:Option Addr)(p0:Sl)(p1:Sl)(R:Value→TW→Prop)(w:TW):Prop:=
nwv w λw1=>
nwv w1 λw2=>
nck e0 λa=>
ldc (.ptr) w2.drew a λ(v:Option Addr)=>
nck v λa1=>
ldc (.ptr) w2.drew a1 λ(v1:Option Addr)=>
nck v1 λa2=>
ldc (.ptr) w2.drew a2 λ(v2:Option Addr)=>
nck v2 λa3=>
ldc (.ptr) w2.drew a3 λ(v3:Option Addr)=>
nck v3 λa4=>
ldc (.ptr) w2.drew a4 λ(v4:Option Addr)=>
nck v4 λa5=>
ldc (.ptr) w2.drew a5 λ(v5:Option Addr)=>
nck v5 λa6=>
ldc (.ptr) w2.drew a6 λ(v6:Option Addr)=>
cl Pg F.aP [.pointer v6,p0.v,p1.v] w2.drew [.one .slice,.one .slice,.one (.int .i64)] λ(_:Sl)(s1:Sl)(r:Int) w3=>
hld w3 [(a5,.pointer v5),(a4,.pointer v4),(a3,.pointer v3),(a2,.pointer v2),(a1,.pointer v1),(a,.pointer v)] <|
cond ((r:Int) != 0) (
nwv w3 λw4=>
R (.tuple #[.agg #[.slice none 0 0,.bool false],.int .i64 r]) w4) (
cl Pg F.dT [s1.v,.int .i64 1] w3.drew [.one .slice] λ(s2:Sl) w5=>
cl Pg F.fF [s2.v,p1.v] w5 [.one (.int .i64)] λ(r1:Int) w6=>
cond (decide ((r1:Int)>0)) (
cl Pg F.dw [p1.v,s1.v] w6 [.one .slice,.one .bool] λ(s3:Sl)(_:Bool) w7=>
nwv w7 λw8=>
R (.tuple #[.agg #[s3.v,.bool true],.int .i64 0]) w8) (
nwv w6 λw9=>
R (.tuple #[.agg #[s1.v,.bool false],.int .i64 0]) w9))
theorem Ct.cQ{p0:Sl}{p1:Sl}{K:KT [.agg [.slice,.bool],.one (.int .i64)]}(h:Sh.cQ e0 p0 p1 (Rt X [.agg [.slice,.bool],.one (.int .i64)] K w) w.here):Ct Pg F.cQ [.pointer e0,.agg #[p0.v,p1.v]] w X [.agg [.slice,.bool],.one (.int .i64)] K:=
 cod (Sh.cQ e0 p0 p1) 61 [(3,61),(4,63)] [(61,2),(63,2)] [] f120 h
def Sh.co(e0:Option Addr)(a:Sl)(m:Sl)(R:Value→TW→Prop)(w:TW):Prop:=
cl Pg F.az [m.v] w [.one .bool] λ(ok:Bool) w1=>
cond ok (
R (.tuple #[.slice none 0 0,.int .i64 2]) w1) (
nck e0 λa1=>
ldc (.ptr) w1 a1 λ(v:Option Addr)=>
nck v λa2=>
ldc (.ptr) w1 a2 λ(v1:Option Addr)=>
nck v1 λa3=>
ldc (.ptr) w1 a3 λ(v2:Option Addr)=>
nck v2 λa4=>
ldc (.ptr) w1 a4 λ(v3:Option Addr)=>
nck v3 λa5=>
ldc (.ptr) w1 a5 λ(v4:Option Addr)=>
nck v4 λa6=>
ldc (.ptr) w1 a6 λ(v5:Option Addr)=>
nck v5 λa7=>
ldc (.ptr) w1 a7 λ(v6:Option Addr)=>
cl Pg F.aP [.pointer v6,a.v,m.v] w1 [.one .slice,.one .slice,.one (.int .i64)] λ(_:Sl)(s1:Sl)(_:Int) w2=>
nck e0 λa8=>
ldc (.ptr) w2 a8 λ(v7:Option Addr)=>
cl Pg F.dV [.pointer v7,s1.v,m.v] w2 [.one .slice,.agg [.slice,.bool],.agg [.slice,.bool]] λ(s2:Sl)(r1:Sl)(r2:Bool)(_:Sl)(_:Bool) w3=>
nwv w3 λw4=>
nwv w4 λw5=>
nwv w5 λw6=>
nwv w6 λw7=>
cl Pg F.bZ [.int .u64 1] w7 [.one .slice] λ(s3:Sl) w8=>
cl Pg F.fF [s2.v,s3.v] w8 [.one (.int .i64)] λ(r5:Int) w9=>
cond ((r5:Int) != 0) (
R (.tuple #[.slice none 0 0,.int .i64 4]) w9) (
cl Pg F.cm [.pointer e0,.agg #[r1.v,.bool r2],m.v] w9 [.one .slice,.one (.int .i64)] λ(s4:Sl)(r6:Int) w10=>
R (.tuple #[s4.v,.int .i64 r6]) w10))
theorem Ct.co{a:Sl}(h:Sh.co e0 a m (Rt X [.one .slice,.one (.int .i64)] K w) w.here):Ct Pg F.co [.pointer e0,a.v,m.v] w X [.one .slice,.one (.int .i64)] K:=
 cod (Sh.co e0 a m) 63 [(9,63),(10,65)] [(63,2),(65,2)] [] f150 h
def Sh.cm(e0:Option Addr)(a0:Sl)(a1:Bool)(m:Sl)(R:Value→TW→Prop)(w:TW):Prop:=
nwv w λw1=>
nck e0 λa2=>
ldc (.ptr) w1.drew a2 λ(v:Option Addr)=>
nck v λa3=>
ldc (.ptr) w1.drew a3 λ(v1:Option Addr)=>
nck v1 λa4=>
ldc (.ptr) w1.drew a4 λ(v2:Option Addr)=>
nck v2 λa5=>
ldc (.ptr) w1.drew a5 λ(v3:Option Addr)=>
nck v3 λa6=>
ldc (.ptr) w1.drew a6 λ(v4:Option Addr)=>
nck v4 λa7=>
ldc (.ptr) w1.drew a7 λ(v5:Option Addr)=>
nck v5 λa8=>
ldc (.ptr) w1.drew a8 λ(v6:Option Addr)=>
cl Pg F.aP [.pointer v6,a0.v,m.v] w1.drew [.one .slice,.one .slice,.one (.int .i64)] λ(_:Sl)(s1:Sl)(r:Int) w2=>
hld w2 [(a7,.pointer v5),(a6,.pointer v4),(a5,.pointer v3),(a4,.pointer v2),(a3,.pointer v1),(a2,.pointer v)] <|
cond ((r:Int) != 0) (
R (.tuple #[.slice none 0 0,.int .i64 r]) w2) (
Jn [.bool] (λJ0=>
cond a1 (
cl Pg F.az [s1.v] w2 [.one .bool] λ(ok:Bool) w3=>
J0 (!ok) w3) (
J0 false w2)) λ(x:Bool) w4=>
Jn [.slice] (λJ1=>
cond x (
cl Pg F.dw [m.v,s1.v] w4 [.one .slice,.one .bool] λ(s2:Sl)(_:Bool) w5=>
J1 s2 w5) (
J1 s1 w4)) λ(r1:Sl) w6=>
R (.tuple #[r1.v,.int .i64 0]) w6)
theorem Ct.cm{a0:Sl}{a1:Bool}(h:Sh.cm e0 a0 a1 m (Rt X [.one .slice,.one (.int .i64)] K w) w.here):Ct Pg F.cm [.pointer e0,.agg #[a0.v,.bool a1],m.v] w X [.one .slice,.one (.int .i64)] K:=
 cod (Sh.cm e0 a0 a1 m) 58 [(4,58)] [(58,2)] [(0,4,[(50,.one .bool)]),(1,5,[(9,.one .slice)])] f183 h
end
end Go.Proofs.YtpbimnlggalnfaaGreatDoor.Zg
