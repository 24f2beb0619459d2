/- A part of the proofs of this seat's laws. -/
import Derived.Test.YtpbimnlggalnfaaGreatDoorGC
set_option linter.unusedVariables false
set_option linter.unusedSimpArgs false
set_option linter.unnecessarySimpa false
namespace Go.Proofs.YtpbimnlggalnfaaGreatDoor.Zg
open Go.RowKit
section
set_option maxRecDepth 100000
open Go.Proofs.Tryz
variable {e0:Option Addr} {a b m0 m1 m2 m3:Sl}
def Sh.kV(t:HL I11):PR:=λR w=>
nwv w λw1=>
cl Pg F.mr [.agg (aM I11 t).toArray] w1 [.one .ptr] λ(p:OA) w2=>
nwb w2 [.pointer p] T.wN λb w3=>
R (.pointer (some ⟨b,0,none⟩)) w3
theorem Ct.kV{t:HL I11}:CG (Sh.kV t) F.kV [.agg (aM I11 t).toArray] [.one .ptr]:=cod 7 [(1,7)] [(7,11)] [] f132
def Sh.eI(e0:Option Addr)(a:Sl)(b:Sl):PR:=λR w=>
nwv w λw1=>
nwv w1 λw2=>
cl Pg F.dL [.pointer e0,a.v,b.v,.int .i64 0] w2 [.agg [.slice,.slice,.slice,.slice],.one .slice,.one .slice,.one (.int .i64)] λ(_:Sl)(r1:Sl)(_:Sl)(r3:Sl)(s:Sl)(_:Sl)(r4:Int) w3=>
nwv w3 λw4=>
nwv w4 λw5=>
cl Pg F.aB [s.v] w5 [.one .bool] λ(ok:Bool) w6=>
cond ok (
nwv w6 λw7=>
nwv w7 λw8=>
R (.tuple #[.slice none 0 0,.agg #[.slice none 0 0,.bool false],.agg #[.slice none 0 0,.bool false]]) w8) (
cond ((r4:Int) == 0) (
cl Pg F.aX [.int .u64 1] w6 [.one .slice] λ(s2:Sl) w9=>
nwv w9 λw10=>
nwv w10 λw11=>
R (.tuple #[s.v,.agg #[s2.v,.bool false],.agg #[.slice none 0 0,.bool false]]) w11) (
dV r4 2 λn=>
Jn [.slice,.bool,.slice,.bool,.slice] (λJ0=>
cond (!((n:Int) == 0)) (
cl Pg F.aB [r3.v] w6.drew [.one .bool] λ(ok1:Bool) w12=>
nwv w12 λw13=>
J0 r3 (!ok1) Sl.nil false r1 w13) (
nwv w6.drew λw14=>
J0 r3 false Sl.nil false r1 w14)) λ(x:Sl)(x1:Bool)(_:Sl)(_:Bool)(m:Sl) w15=>
Jn [.slice,.bool,.slice,.bool] (λJ1=>
cond ((n:Int) == 0) (
cl Pg F.aB [m.v] w15.drew [.one .bool] λ(ok2:Bool) w16=>
nwv w16 λw17=>
J1 x x1 m (!ok2) w17) (
nwv w15.drew λw18=>
J1 x x1 m false w18)) λ(x2:Sl)(x3:Bool)(y2:Sl)(y3:Bool) w19=>
nwv w19.drew λw20=>
nwv w20 λw21=>
R (.tuple #[s.v,.agg #[x2.v,.bool x3],.agg #[y2.v,.bool y3]]) w21))
theorem Ct.eI:CG (Sh.eI e0 a b) F.eI [.pointer e0,a.v,b.v] [.one .slice,.agg [.slice,.bool],.agg [.slice,.bool]]:=cod 61 [(7,61),(8,63),(9,65)] [(61,2),(63,2),(65,4)] [(0,7,[(61,.one .slice),(62,.one .bool),(63,.one .slice),(64,.one .bool),(66,.one .slice)]),(0,8,[(61,.one .slice),(62,.one .bool),(63,.one .slice),(64,.one .bool)])] f182
def Sh.dL(e0:Option Addr)(a:Sl)(b:Sl)(k:Int):PR:=λR w=>
nwv w λw1=>
cl Pg F.jN [] w1 [.agg [.slice,.slice,.slice,.slice]] λ(r:Sl)(r1:Sl)(r2:Sl)(r3:Sl) w2=>
cl Pg F.aF [a.v] w2 [.one .slice] λ(s:Sl) w3=>
cl Pg F.aF [b.v] w3 [.one .slice] λ(s1:Sl) w4=>
nwv w4 λw5=>
bnd (if (0:Int)>k then 0 else k) λn=>
Jn [.slice,.slice,.int .i64,.slice,.slice,.slice,.slice] (λJ0=>
Lp [.slice,.slice,.int .i64,.slice,.slice,.slice,.slice] (λ(c:Sl)(d:Sl)(n1:Int)(m:Sl)(m1:Sl)(m2:Sl)(m3:Sl) w6 C0=>
cl Pg F.bo [d.v] w6 [.one (.int .i64)] λ(r4:Int) w7=>
cond (decide ((r4:Int)>n)) (
Jn [.slice,.slice,.int .i64,.slice,.slice,.slice,.slice] (λJ1=>
cl Pg F.cO [c.v,d.v] w7 [.one (.int .i64)] λ(r5:Int) w8=>
Jn [.slice,.slice,.int .i64,.slice,.slice,.slice,.slice] (λJ2=>
cond (decide ((r5:Int)≥0)) (
cl Pg F.jq [c.v,d.v] w8 [.agg [.int .u64,.int .u64,.int .u64,.int .u64,.int .i64]] λ(r6:Int)(r7:Int)(r8:Int)(r9:Int)(r10:Int) w9=>
nwv w9 λw10=>
nwv w10 λw11=>
cl Pg F.eR [.agg #[.int .u64 r6,.int .u64 r7,.int .u64 r8,.int .u64 r9,.int .i64 r10],c.v,d.v] w11 [.one .slice,.one .slice] λ(s2:Sl)(s3:Sl) w12=>
Jn [.bool,.slice,.slice,.slice,.slice,.int .u64,.int .u64,.int .u64,.int .u64,.int .i64] (λJ3=>
cond (decide ((r10:Int)>0)) (
cl Pg F.bo [s2.v] w12 [.one (.int .i64)] λ(r11:Int) w13=>
J3 (decide ((r11:Int)>n)) m m1 m2 m3 r6 r7 r8 r9 r10 w13) (
J3 false m m1 m2 m3 r6 r7 r8 r9 r10 w12)) λ(x:Bool)(m4:Sl)(m5:Sl)(m6:Sl)(m7:Sl)(row:Int)(row1:Int)(row2:Int)(row3:Int)(row4:Int) w14=>
cond x (
bnd (wi (n1+row4)) λn2=>
cl Pg F.iW [.agg #[m4.v,m5.v,m6.v,m7.v],.agg #[.int .u64 row,.int .u64 row1,.int .u64 row2,.int .u64 row3,.int .i64 row4]] w14.drew [.agg [.slice,.slice,.slice,.slice]] λ(r12:Sl)(r13:Sl)(r14:Sl)(r15:Sl) w15=>
nwv w15 λw16=>
J1 s2 s3 n2 r12 r13 r14 r15 w16) (
J2 c d n1 m4 m5 m6 m7 w14)) (
J2 c d n1 m m1 m2 m3 w8)) λ(c1:Sl)(d1:Sl)(n3:Int)(m8:Sl)(m9:Sl)(m10:Sl)(m11:Sl) w17=>
nck e0 λa1=>
ldc (.ptr) w17 a1 λ(v:OA)=>
ch 4 w17 v λ(v5:OA)=>
cl Pg F.ay [.pointer v5,c1.v,d1.v] w17 [.one .slice,.one .slice,.one (.int .i64)] λ(s4:Sl)(s5:Sl)(_:Int) w18=>
cl Pg F.fz [.pointer e0,.agg #[m8.v,m9.v,m10.v,m11.v],s4.v] w18 [.agg [.slice,.slice,.slice,.slice]] λ(r17:Sl)(r18:Sl)(r19:Sl)(r20:Sl) w19=>
bnd (wi (n3+1)) λn4=>
nwv w19 λw20=>
J1 d1 s5 n4 r17 r18 r19 r20 w20) λ(c2:Sl)(d2:Sl)(n5:Int)(m12:Sl)(m13:Sl)(m14:Sl)(m15:Sl) w21=>
C0 c2 d2 n5 m12 m13 m14 m15 w21) (
J0 c d n1 m m1 m2 m3 w7)) s s1 0 r r1 r2 r3 w5) λ(c3:Sl)(d3:Sl)(n6:Int)(m16:Sl)(m17:Sl)(m18:Sl)(m19:Sl) w22=>
cl Pg F.jM [.agg #[m16.v,m17.v,m18.v,m19.v]] w22 [.agg [.slice,.slice,.slice,.slice]] λ(r21:Sl)(r22:Sl)(r23:Sl)(r24:Sl) w23=>
nwv w23 λw24=>
R (.tuple #[.agg #[r21.v,r22.v,r23.v,r24.v],c3.v,d3.v,.int .i64 n6]) w24
theorem Ct.dL{k:Int}:CG (Sh.dL e0 a b k) F.dL [.pointer e0,a.v,b.v,.int .i64 k] [.agg [.slice,.slice,.slice,.slice],.one .slice,.one .slice,.one (.int .i64)]:=cod 100 [(8,100),(12,104)] [(100,4),(104,5)] [(2,0,[(9,.one .slice),(10,.one .slice),(11,.one (.int .i64)),(100,.one .slice),(101,.one .slice),(102,.one .slice),(103,.one .slice)]),(3,3,[(9,.one .slice),(10,.one .slice),(11,.one (.int .i64)),(100,.one .slice),(101,.one .slice),(102,.one .slice),(103,.one .slice)]),(2,1,[(9,.one .slice),(10,.one .slice),(11,.one (.int .i64)),(100,.one .slice),(101,.one .slice),(102,.one .slice),(103,.one .slice)]),(1,5,[(9,.one .slice),(10,.one .slice),(11,.one (.int .i64)),(100,.one .slice),(101,.one .slice),(102,.one .slice),(103,.one .slice)]),(0,7,[(51,.one .bool),(100,.one .slice),(101,.one .slice),(102,.one .slice),(103,.one .slice),(104,.one (.int .u64)),(105,.one (.int .u64)),(106,.one (.int .u64)),(107,.one (.int .u64)),(108,.one (.int .i64))])] f216
def Sh.jN:PR:=λR w=>
nwv w λw1=>
cl Pg F.aX [.int .u64 1] w1 [.one .slice] λ(s:Sl) w2=>
cl Pg F.aX [.int .u64 1] w2 [.one .slice] λ(s1:Sl) w3=>
nwv w3 λw4=>
R (.agg #[s.v,.slice none 0 0,.slice none 0 0,s1.v]) w4
theorem Ct.jN:CG Sh.jN F.jN [] [.agg [.slice,.slice,.slice,.slice]]:=cod 4 [(0,4)] [(4,4)] [] f240
def Sh.iW(m0:Sl)(m1:Sl)(m2:Sl)(m3:Sl)(r0:Int)(r1:Int)(r2:Int)(r3:Int)(r4:Int):PR:=λR w=>
nwv w λw1=>
nwv w1 λw2=>
nwv w2 λw3=>
cl Pg F.kF [m0.v,m1.v,.int .u64 r3,.int .u64 r1,.int .u64 r2,.int .u64 r0] w3 [.one .slice,.one .slice] λ(s:Sl)(s1:Sl) w4=>
nwv w4 λw5=>
nwv w5 λw6=>
cl Pg F.kF [m2.v,m3.v,.int .u64 r3,.int .u64 r1,.int .u64 r2,.int .u64 r0] w6 [.one .slice,.one .slice] λ(s2:Sl)(s3:Sl) w7=>
nwv w7 λw8=>
nwv w8 λw9=>
nwv w9 λw10=>
R (.agg #[s.v,s1.v,s2.v,s3.v]) w10
theorem Ct.iW{r0:Int}{r1:Int}{r2:Int}{r3:Int}{r4:Int}:CG (Sh.iW m0 m1 m2 m3 r0 r1 r2 r3 r4) F.iW [.agg #[m0.v,m1.v,m2.v,m3.v],.agg #[.int .u64 r0,.int .u64 r1,.int .u64 r2,.int .u64 r3,.int .i64 r4]] [.agg [.slice,.slice,.slice,.slice]]:=cod 42 [(2,42),(3,46),(4,51)] [(42,4),(46,5),(51,4)] [] f241
def Sh.fz(e0:Option Addr)(m0:Sl)(m1:Sl)(m2:Sl)(m3:Sl)(q:Sl):PR:=λR w=>
nwv w λw1=>
nwv w1 λw2=>
nck e0 λa=>
ldc (.ptr) w2.drew a λ(v:OA)=>
nck v λa1=>
ldc (.ptr) w2.drew a1 λ(v1:OA)=>
nck v1 λa2=>
ldc (.ptr) w2.drew a2 λ(v2:OA)=>
nck v2 λa3=>
ldc (.ptr) w2.drew a3 λ(v3:OA)=>
nck v3 λa4=>
ldc (.ptr) w2.drew a4 λ(v4:OA)=>
nck v4 λa5=>
ldc (.ptr) w2.drew a5 λ(v5:OA)=>
nck v5 λa6=>
ldc (.ptr) w2.drew a6 λ(v6:OA)=>
nck v6 λa7=>
ldc (.ptr) w2.drew a7 λ(v7:OA)=>
nck v7 λa8=>
ldc (.ptr) w2.drew a8 λ(v8:OA)=>
nck e0 λa9=>
ldc (.ptr) w2.drew a9 λ(v9:OA)=>
nck v9 λa10=>
ldc (.ptr) w2.drew a10 λ(v10:OA)=>
nck v10 λa11=>
ldc (.ptr) w2.drew a11 λ(v11:OA)=>
nck v11 λa12=>
ldc (.ptr) w2.drew a12 λ(v12:OA)=>
nck v12 λa13=>
ldc (.ptr) w2.drew a13 λ(v13:OA)=>
nck v13 λa14=>
ldc (.ptr) w2.drew a14 λ(v14:OA)=>
nck v14 λa15=>
ldc (.ptr) w2.drew a15 λ(v15:OA)=>
nck v15 λa16=>
ldc (.ptr) w2.drew a16 λ(v16:OA)=>
nck v16 λa17=>
ldc (.ptr) w2.drew a17 λ(v17:OA)=>
cl Pg F.au [.pointer v8,m0.v,q.v] w2.drew [.one .slice] λ(s:Sl) w3=>
hld w3 [(a17,.pointer v17),(a16,.pointer v16),(a15,.pointer v15),(a14,.pointer v14),(a13,.pointer v13),(a12,.pointer v12),(a11,.pointer v11),(a10,.pointer v10),(a9,.pointer v9),(a7,.pointer v7),(a6,.pointer v6),(a5,.pointer v5),(a4,.pointer v4),(a3,.pointer v3),(a2,.pointer v2),(a1,.pointer v1),(a,.pointer v)] <|
cl Pg F.bG [s.v,m1.v] w3 [.one .slice] λ(s1:Sl) w4=>
hld w4 [(a17,.pointer v17),(a16,.pointer v16),(a15,.pointer v15),(a14,.pointer v14),(a13,.pointer v13),(a12,.pointer v12),(a11,.pointer v11),(a10,.pointer v10),(a9,.pointer v9),(a7,.pointer v7),(a6,.pointer v6),(a5,.pointer v5),(a4,.pointer v4),(a3,.pointer v3),(a2,.pointer v2),(a1,.pointer v1),(a,.pointer v)] <|
cl Pg F.au [.pointer v17,m2.v,q.v] w4 [.one .slice] λ(s2:Sl) w5=>
hld w5 [(a16,.pointer v16),(a15,.pointer v15),(a14,.pointer v14),(a13,.pointer v13),(a12,.pointer v12),(a11,.pointer v11),(a10,.pointer v10),(a9,.pointer v9),(a7,.pointer v7),(a6,.pointer v6),(a5,.pointer v5),(a4,.pointer v4),(a3,.pointer v3),(a2,.pointer v2),(a1,.pointer v1),(a,.pointer v)] <|
cl Pg F.bG [s2.v,m3.v] w5 [.one .slice] λ(s3:Sl) w6=>
hld w6 [(a16,.pointer v16),(a15,.pointer v15),(a14,.pointer v14),(a13,.pointer v13),(a12,.pointer v12),(a11,.pointer v11),(a10,.pointer v10),(a9,.pointer v9),(a7,.pointer v7),(a6,.pointer v6),(a5,.pointer v5),(a4,.pointer v4),(a3,.pointer v3),(a2,.pointer v2),(a1,.pointer v1),(a,.pointer v)] <|
nwv w6 λw7=>
R (.agg #[s1.v,m0.v,s3.v,m2.v]) w7
theorem Ct.fz{q:Sl}:CG (Sh.fz e0 m0 m1 m2 m3 q) F.fz [.pointer e0,.agg #[m0.v,m1.v,m2.v,m3.v],q.v] [.agg [.slice,.slice,.slice,.slice]]:=cod 82 [(4,82),(6,86)] [(82,4),(86,4)] [] f242
def Sh.jM(m0:Sl)(m1:Sl)(m2:Sl)(m3:Sl):PR:=λR w=>
nwv w λw1=>
nwv w1 λw2=>
cl Pg F.aF [m0.v] w2.drew [.one .slice] λ(s:Sl) w3=>
cl Pg F.aF [m1.v] w3 [.one .slice] λ(s1:Sl) w4=>
cl Pg F.aF [m2.v] w4 [.one .slice] λ(s2:Sl) w5=>
cl Pg F.aF [m3.v] w5 [.one .slice] λ(s3:Sl) w6=>
nwv w6 λw7=>
R (.agg #[s.v,s1.v,s2.v,s3.v]) w7
theorem Ct.jM:CG (Sh.jM m0 m1 m2 m3) F.jM [.agg #[m0.v,m1.v,m2.v,m3.v]] [.agg [.slice,.slice,.slice,.slice]]:=cod 16 [(1,16),(2,20)] [(16,4),(20,4)] [] f243
def Sh.kF(x:Sl)(y:Sl)(p:Int)(q:Int)(r:Int)(s:Int):PR:=λR w=>
cl Pg F.cN [x.v,.int .u64 p] w [.one .slice] λ(s1:Sl) w1=>
cl Pg F.fD [s1.v,y.v,.int .u64 r] w1 [.one .slice] λ(s2:Sl) w2=>
cl Pg F.cN [x.v,.int .u64 q] w2 [.one .slice] λ(s3:Sl) w3=>
cl Pg F.fD [s3.v,y.v,.int .u64 s] w3 [.one .slice] λ(s4:Sl) w4=>
R (.tuple #[s2.v,s4.v]) w4
theorem Ct.kF{x:Sl}{y:Sl}{p:Int}{q:Int}{r:Int}{s:Int}:CG (Sh.kF x y p q r s) F.kF [x.v,y.v,.int .u64 p,.int .u64 q,.int .u64 r,.int .u64 s] [.one .slice,.one .slice]:=cod 26 [] [] [] f259
end
section
set_option maxRecDepth 100000
open Go.Proofs.Tryz
variable {a:Sl} {n:Int}
def Sh.eH(e0:Option Addr)(a:Sl)(b:Sl)(inner:Value):PR:=λR w=>
Jn [.slice,.slice] (λJ0=>
cond (decide (((a.n:Int):Int)<(b.n:Int))) (
J0 b a w) (
J0 a b w)) λ(a1:Sl)(b1:Sl) w1=>
bnd (wi ((a1.n:Int)+1)) λn=>
d9 .i64 n 2 λn1=>
cond (decide (((b1.n:Int):Int)≤n1)) (
R (.tuple #[.slice none 0 0,.bool false]) w1) (
nck e0 λa2=>
ldc (.ptr) w1 a2 λ(v:OA)=>
nck v λa3=>
ldc (.ptr) w1 a3 λ(v1:OA)=>
nck v1 λa4=>
cl Pg F.br [.pointer (some a4)] w1 [.one (.int .i64)] λ(_:Int) w2=>
cl Pg F.fH [a1.v,.int .i64 0,.int .i64 n1] w2 [.one .slice] λ(s:Sl) w3=>
bnd (wi ((a1.n:Int)-n1)) λn2=>
cl Pg F.fH [a1.v,.int .i64 n1,.int .i64 n2] w3 [.one .slice] λ(s1:Sl) w4=>
cl Pg F.fH [b1.v,.int .i64 0,.int .i64 n1] w4 [.one .slice] λ(s2:Sl) w5=>
bnd (wi ((b1.n:Int)-n1)) λn3=>
cl Pg F.fH [b1.v,.int .i64 n1,.int .i64 n3] w5 [.one .slice] λ(s3:Sl) w6=>
cl Pg F.bG [s.v,s1.v] w6 [.one .slice] λ(s4:Sl) w7=>
bnd (wi (n1+1)) λn4=>
cl Pg F.jr [s4.v,.int .i64 n4] w7 [.one .slice] λ(s5:Sl) w8=>
cl Pg F.bG [s2.v,s3.v] w8 [.one .slice] λ(s6:Sl) w9=>
bnd (wi (n1+1)) λn5=>
cl Pg F.jr [s6.v,.int .i64 n5] w9 [.one .slice] λ(s7:Sl) w10=>
clv Pg inner [s.v,s2.v] w10 [.one .slice] λ(s8:Sl) w11=>
clv Pg inner [s1.v,s3.v] w11 [.one .slice] λ(s9:Sl) w12=>
clv Pg inner [s5.v,s7.v] w12 [.one .slice] λ(s10:Sl) w13=>
nck e0 λa5=>
ldc (.ptr) w13 a5 λ(v2:OA)=>
nck v2 λa6=>
ldc (.ptr) w13 a6 λ(v3:OA)=>
nck v3 λa7=>
cl Pg F.bq [.pointer (some a7)] w13 [.one (.int .i64)] λ(_:Int) w14=>
cl Pg F.bG [s8.v,s9.v] w14 [.one .slice] λ(s11:Sl) w15=>
cl Pg F.aP [s10.v,s11.v] w15 [.one .slice,.one .bool] λ(s12:Sl)(_:Bool) w16=>
nwb w16 [s8.v,s12.v,s9.v] T.bP λb2 w17=>
cl Pg F.cq [.int .i64 n1,.slice (some ⟨b2,0,none⟩) 3 3] w17 [.one .slice] λ(s13:Sl) w18=>
R (.tuple #[s13.v,.bool true]) w18)
theorem Ct.eH{e0:Option Addr}{b:Sl}{inner:Value}:CG (Sh.eH e0 a b inner) F.eH [.pointer e0,a.v,b.v,inner] [.one .slice,.one .bool]:=cod 117 [] [] [(1,2,[(1,.one .slice),(2,.one .slice)])] f187
def Sh.fH(a:Sl)(from0:Int)(n:Int):PR:=λR w=>
mks w n n T.an 8 [.int .u64 0] λs w1=>
Jn [] (λJ0=>
cond (decide ((from0:Int)<(a.n:Int))) (
bnd (wi (from0+n)) λn1=>
bnd (if (n1:Int)<(a.n:Int) then n1 else (a.n:Int)) λn2=>
slc a from0 n2 1 λs1=>
cpy w1 T.an s s1 λ_ w2=>
J0 w2) (
J0 w1)) fun  w3=>
R (s.v) w3
theorem Ct.fH{from0:Int}:CG (Sh.fH a from0 n) F.fH [a.v,.int .i64 from0,.int .i64 n] [.one .slice]:=cod 26 [] [] [(1,3,[])] f217
def Sh.jr(a:Sl)(n:Int):PR:=λR w=>
cl Pg F.fH [a.v,.int .i64 0,.int .i64 n] w [.one .slice] λ(s:Sl) w1=>
R (s.v) w1
theorem Ct.jr:CG (Sh.jr a n) F.jr [a.v,.int .i64 n] [.one .slice]:=cod 8 [] [] [] f218
def Sh.kt(t:HL I11):PR:=λR w=>
nwv w λw1=>
cl Pg F.ji [.agg (aM I11 t).toArray] w1 [.one .ptr] λ(p:OA) w2=>
nwb w2 [.pointer p] T.qU λb w3=>
R (.pointer (some ⟨b,0,none⟩)) w3
theorem Ct.kt{t:HL I11}:CG (Sh.kt t) F.kt [.agg (aM I11 t).toArray] [.one .ptr]:=cod 7 [(1,7)] [(7,11)] [] f281
end
section
set_option maxRecDepth 100000
open Go.Proofs.Tryz
variable {a b:Sl} {r0 r1 r2 r3 r4 x y:Int}
def Sh.jq(a:Sl)(b:Sl):PR:=λR w=>
nwv w λw1=>
cl Pg F.bo [a.v] w1 [.one (.int .i64)] λ(r:Int) w2=>
cl Pg F.jp [a.v,.int .i64 r] w2 [.one (.int .u64)] λ(r1:Int) w3=>
cl Pg F.bo [a.v] w3 [.one (.int .i64)] λ(r2:Int) w4=>
cl Pg F.jp [b.v,.int .i64 r2] w4 [.one (.int .u64)] λ(r3:Int) w5=>
cl Pg F.jo [.int .u64 r1,.int .u64 r3] w5 [.agg [.int .u64,.int .u64,.int .u64,.int .u64,.int .i64]] λ(r4:Int)(r5:Int)(r6:Int)(r7:Int)(r8:Int) w6=>
nwv w6 λw7=>
R (.agg #[.int .u64 r4,.int .u64 r5,.int .u64 r6,.int .u64 r7,.int .i64 r8]) w7
theorem Ct.jq:CG (Sh.jq a b) F.jq [a.v,b.v] [.agg [.int .u64,.int .u64,.int .u64,.int .u64,.int .i64]]:=cod 14 [(4,14)] [(14,5)] [] f133
def Sh.eR(r0:Int)(r1:Int)(r2:Int)(r3:Int)(r4:Int)(a:Sl)(b:Sl):PR:=λR w=>
nwv w λw1=>
dV r4 2 λn=>
cond ((n:Int) == 1) (
cl Pg F.ip [b.v,.int .u64 r1,a.v,.int .u64 r0] w1.drew [.one .slice] λ(s:Sl) w2=>
cl Pg F.ip [a.v,.int .u64 r2,b.v,.int .u64 r3] w2 [.one .slice] λ(s1:Sl) w3=>
R (.tuple #[s.v,s1.v]) w3) (
cl Pg F.ip [a.v,.int .u64 r0,b.v,.int .u64 r1] w1.drew [.one .slice] λ(s2:Sl) w4=>
cl Pg F.ip [b.v,.int .u64 r3,a.v,.int .u64 r2] w4 [.one .slice] λ(s3:Sl) w5=>
R (.tuple #[s2.v,s3.v]) w5)
theorem Ct.eR:CG (Sh.eR r0 r1 r2 r3 r4 a b) F.eR [.agg #[.int .u64 r0,.int .u64 r1,.int .u64 r2,.int .u64 r3,.int .i64 r4],a.v,b.v] [.one .slice,.one .slice]:=cod 40 [(3,40)] [(40,5)] [] f134
def Sh.jo(x:Int)(y:Int):PR:=λR w=>
nwv w λw1=>
nwv w1 λw2=>
nwv w2 λw3=>
Jn [.int .u64,.int .u64,.int .u64,.int .u64,.int .i64,.int .u64,.int .u64,.int .u64,.int .u64,.int .i64] (λJ0=>
Lp [.int .u64,.int .u64,.int .u64,.int .u64,.int .u64,.int .u64,.int .i64,.int .u64,.int .u64,.int .u64,.int .u64,.int .i64] (λ(x1:Int)(y1:Int)(x2:Int)(x3:Int)(x4:Int)(x5:Int)(x6:Int)(r:Int)(r1:Int)(r2:Int)(r3:Int)(r4:Int) w4 C0=>
Jn [.bool,.int .u64,.int .u64,.int .u64,.int .u64,.int .i64,.int .u64,.int .u64,.int .u64,.int .u64,.int .i64] (λJ1=>
cond (decide ((r2:Int)<1073741824)) (
J1 (decide ((r3:Int)<1073741824)) x2 x3 x4 x5 x6 r r1 r2 r3 r4 w4) (
J1 false x2 x3 x4 x5 x6 r r1 r2 r3 r4 w4)) λ(x7:Bool)(x8:Int)(x9:Int)(x10:Int)(x11:Int)(x12:Int)(r5:Int)(r6:Int)(r7:Int)(r8:Int)(r9:Int) w5=>
cond x7 (
cl Pg F.dK [.agg #[.int .u64 r5,.int .u64 r6,.int .u64 r7,.int .u64 r8,.int .i64 r9],.int .u64 x1,.int .u64 y1] w5 [.one (.int .u64),.one .bool] λ(r10:Int)(ok:Bool) w6=>
cond (!ok) (
J0 x8 x9 x10 x11 x12 r5 r6 r7 r8 r9 w6) (
bnd (wu (r10*y1)) λn=>
bnd (wu (x1-n)) λn1=>
cl Pg F.gu [.agg #[.int .u64 r5,.int .u64 r6,.int .u64 r7,.int .u64 r8,.int .i64 r9],.int .u64 r10] w6 [.agg [.int .u64,.int .u64,.int .u64,.int .u64,.int .i64]] λ(r11:Int)(r12:Int)(r13:Int)(r14:Int)(r15:Int) w7=>
nwv w7 λw8=>
C0 y1 n1 x8 x9 x10 x11 x12 r11 r12 r13 r14 r15 w8)) (
J0 x8 x9 x10 x11 x12 r5 r6 r7 r8 r9 w5)) x y 0 0 0 0 0 1 0 0 1 0 w3) λ(_:Int)(_:Int)(_:Int)(_:Int)(_:Int)(r16:Int)(r17:Int)(r18:Int)(r19:Int)(r20:Int) w9=>
nwv w9 λw10=>
R (.agg #[.int .u64 r16,.int .u64 r17,.int .u64 r18,.int .u64 r19,.int .i64 r20]) w10
theorem Ct.jo:CG (Sh.jo x y) F.jo [.int .u64 x,.int .u64 y] [.agg [.int .u64,.int .u64,.int .u64,.int .u64,.int .i64]]:=cod 36 [(4,36),(5,41)] [(36,5),(41,5)] [(2,0,[(36,.one (.int .u64)),(37,.one (.int .u64)),(38,.one (.int .u64)),(39,.one (.int .u64)),(40,.one (.int .i64)),(41,.one (.int .u64)),(42,.one (.int .u64)),(43,.one (.int .u64)),(44,.one (.int .u64)),(45,.one (.int .i64))]),(3,2,[(0,.one (.int .u64)),(1,.one (.int .u64)),(36,.one (.int .u64)),(37,.one (.int .u64)),(38,.one (.int .u64)),(39,.one (.int .u64)),(40,.one (.int .i64)),(41,.one (.int .u64)),(42,.one (.int .u64)),(43,.one (.int .u64)),(44,.one (.int .u64)),(45,.one (.int .i64))]),(0,2,[(16,.one .bool),(36,.one (.int .u64)),(37,.one (.int .u64)),(38,.one (.int .u64)),(39,.one (.int .u64)),(40,.one (.int .i64)),(41,.one (.int .u64)),(42,.one (.int .u64)),(43,.one (.int .u64)),(44,.one (.int .u64)),(45,.one (.int .i64))])] f166
def Sh.jp(a:Sl)(digits:Int):PR:=λR w=>
bnd (wi (digits-62)) λn=>
bnd (if (n:Int)>0 then n else 0) λn1=>
cl Pg F.bU [a.v,.int .i64 n1] w [.one .slice] λ(s:Sl) w1=>
cl Pg F.aB [s.v] w1 [.one .bool] λ(ok:Bool) w2=>
cond ok (
R (.int .u64 0) w2) (
ixa s 0 1 λa1=>
ldc (.int .u64) w2 a1 λ(v:Int)=>
R (.int .u64 v) w2)
theorem Ct.jp{digits:Int}:CG (Sh.jp a digits) F.jp [a.v,.int .i64 digits] [.one (.int .u64)]:=cod 16 [] [] [] f167
def Sh.ip(a:Sl)(p:Int)(b:Sl)(q:Int):PR:=λR w=>
cl Pg F.cN [a.v,.int .u64 p] w [.one .slice] λ(s:Sl) w1=>
cl Pg F.iV [s.v,b.v,.int .u64 q] w1 [.one .slice,.one .bool] λ(s1:Sl)(_:Bool) w2=>
R (s1.v) w2
theorem Ct.ip{p:Int}{q:Int}:CG (Sh.ip a p b q) F.ip [a.v,.int .u64 p,b.v,.int .u64 q] [.one .slice]:=cod 21 [] [] [] f168
def Sh.dK(r0:Int)(r1:Int)(r2:Int)(r3:Int)(r4:Int)(x:Int)(y:Int):PR:=λR w=>
nwv w λw1=>
dV r4 2 λn=>
Jn [.int .u64,.int .u64,.int .u64,.int .u64] (λJ0=>
cond ((n:Int) == 1) (
J0 r0 r1 r3 r2 w1.drew.drew) (
J0 r1 r0 r2 r3 w1.drew)) λ(lessX:Int)(moreX:Int)(lessY:Int)(moreY:Int) w2=>
Jn [.bool] (λJ1=>
cond (decide ((x:Int)<lessX)) (
J1 true w2) (
J1 (decide ((y:Int)≤lessY)) w2)) λ(x1:Bool) w3=>
cond x1 (
R (.tuple #[.int .u64 0,.bool false]) w3) (
bnd (wu (x-lessX)) λn1=>
bnd (wu (y+moreY)) λn2=>
d9 .u64 n1 n2 λn3=>
bnd (wu (x+moreX)) λn4=>
bnd (wu (y-lessY)) λn5=>
d9 .u64 n4 n5 λn6=>
Jn [.int .u64,.bool] (λJ2=>
cond ((n3:Int) == n6) (
J2 n3 (decide ((n3:Int)<2147483648)) w3.drew) (
J2 n3 false w3.drew)) λ(x2:Int)(x3:Bool) w4=>
R (.tuple #[.int .u64 x2,.bool x3]) w4)
theorem Ct.dK:CG (Sh.dK r0 r1 r2 r3 r4 x y) F.dK [.agg #[.int .u64 r0,.int .u64 r1,.int .u64 r2,.int .u64 r3,.int .i64 r4],.int .u64 x,.int .u64 y] [.one (.int .u64),.one .bool]:=cod 64 [(3,64)] [(64,5)] [(1,3,[(8,.one (.int .u64)),(9,.one (.int .u64)),(10,.one (.int .u64)),(11,.one (.int .u64))]),(0,4,[(41,.one .bool)]),(0,7,[(6,.one (.int .u64)),(7,.one .bool)])] f199
def Sh.gu(r0:Int)(r1:Int)(r2:Int)(r3:Int)(r4:Int)(k:Int):PR:=λR w=>
nwv w λw1=>
nwv w1 λw2=>
bnd (wu (k*r2)) λn=>
bnd (wu (r0+n)) λn1=>
bnd (wu (k*r3)) λn2=>
bnd (wu (r1+n2)) λn3=>
bnd (wi (r4+1)) λn4=>
nwv w2 λw3=>
R (.agg #[.int .u64 r2,.int .u64 r3,.int .u64 n1,.int .u64 n3,.int .i64 n4]) w3
theorem Ct.gu{k:Int}:CG (Sh.gu r0 r1 r2 r3 r4 k) F.gu [.agg #[.int .u64 r0,.int .u64 r1,.int .u64 r2,.int .u64 r3,.int .i64 r4],.int .u64 k] [.agg [.int .u64,.int .u64,.int .u64,.int .u64,.int .i64]]:=cod 27 [(2,27),(4,32)] [(27,5),(32,5)] [] f200
end
section
set_option maxRecDepth 100000
open Go.Proofs.Tryz
variable {k n y:Int} {a b:Sl}
def Sh.aX(y:Int):PR:=λR w=>
cond ((y:Int) == 0) (
R (.slice none 0 0) w) (
nwb w [.int .u64 y] T.an λb w1=>
R (.slice (some ⟨b,0,none⟩) 1 1) w1)
theorem Ct.aX:CG (Sh.aX y) F.aX [.int .u64 y] [.one .slice]:=cod 7 [] [] [] f66
def Sh.cO(a:Sl)(b:Sl):PR:=λR w=>
cl Pg F.aO [a.v] w [.one (.int .i64)] λ(r:Int) w1=>
cl Pg F.aO [b.v] w1 [.one (.int .i64)] λ(r1:Int) w2=>
cond ((r:Int) != r1) (
cond (decide ((r:Int)<r1)) (
R (.int .i64 (-1)) w2) (
R (.int .i64 1) w2)) (
bnd (wi (r-1)) λn=>
Jn [] (λJ0=>
Lp [.int .i64] (λ(i:Int) w3 C0=>
cond (decide ((i:Int)≥0)) (
ixa a i 1 λa1=>
ldc (.int .u64) w3.drew a1 λ(v:Int)=>
ixa b i 1 λa2=>
ldc (.int .u64) w3.drew a2 λ(v1:Int)=>
cond ((v:Int) != v1) (
ixa a i 1 λa3=>
ldc (.int .u64) w3.drew.drew a3 λ(v2:Int)=>
ixa b i 1 λa4=>
ldc (.int .u64) w3.drew.drew a4 λ(v3:Int)=>
cond (decide ((v2:Int)<v3)) (
R (.int .i64 (-1)) w3.drew.drew) (
R (.int .i64 1) w3.drew.drew)) (
bnd (wi (i-1)) λn1=>
C0 n1 w3.drew)) (
J0 w3)) n w2) fun  w4=>
R (.int .i64 0) w4)
theorem Ct.cO:CG (Sh.cO a b) F.cO [a.v,b.v] [.one (.int .i64)]:=cod 42 [] [] [(2,0,[]),(3,7,[(7,.one (.int .i64))])] f94
def Sh.aF(a:Sl):PR:=λR w=>
cl Pg F.aI [a.v] w [.one .slice] λ(s:Sl) w1=>
apd w1 T.an 1 8 Sl.nil s λs1 w2=>
R (s1.v) w2
theorem Ct.aF:CG (Sh.aF a) F.aF [a.v] [.one .slice]:=cod 6 [] [] [] f99
def Sh.cN(a:Sl)(y:Int):PR:=λR w=>
cl Pg F.fD [.slice none 0 0,a.v,.int .u64 y] w [.one .slice] λ(s:Sl) w1=>
R (s.v) w1
theorem Ct.cN:CG (Sh.cN a y) F.cN [a.v,.int .u64 y] [.one .slice]:=cod 8 [] [] [] f119
def Sh.aI(a:Sl):PR:=λR w=>
cl Pg F.aO [a.v] w [.one (.int .i64)] λ(r:Int) w1=>
slc a 0 r 1 λs=>
R (s.v) w1
theorem Ct.aI:CG (Sh.aI a) F.aI [a.v] [.one .slice]:=cod 7 [] [] [] f121
def Sh.bG(a:Sl)(b:Sl):PR:=λR w=>
cl Pg F.aI [a.v] w [.one .slice] λ(s:Sl) w1=>
cl Pg F.aI [b.v] w1 [.one .slice] λ(s1:Sl) w2=>
Jn [.slice,.slice] (λJ0=>
cond (decide (((s.n:Int):Int)<(s1.n:Int))) (
J0 s1 s w2) (
J0 s s1 w2)) λ(a1:Sl)(b1:Sl) w3=>
bnd (wi ((a1.n:Int)+1)) λn=>
mks w3 n n T.an 8 [.int .u64 0] λs2 w4=>
Jn [.int .u64] (λJ1=>
Lp [.int .u64,.int .i64] (λ(c:Int)(x:Int) w5 C0=>
cond (decide ((x:Int)<(a1.n:Int))) (
Jn [.int .u64] (λJ2=>
cond (decide ((x:Int)<(b1.n:Int))) (
ixa b1 x 1 λa2=>
ldc (.int .u64) w5 a2 λ(v:Int)=>
J2 v w5) (
J2 0 w5)) λ(y:Int) w6=>
ixa a1 x 1 λa3=>
ldc (.int .u64) w6 a3 λ(v1:Int)=>
gv v1 y c λs3 c1=>
ixa s2 x 1 λa4=>
stc w6 a4 (.int .u64 s3) λw7=>
bnd (wi (x+1)) λn1=>
C0 c1 n1 w7) (
J1 c w5)) 0 0 w4) λ(c2:Int) w8=>
ixa s2 (a1.n:Int) 1 λa5=>
stc w8 a5 (.int .u64 c2) λw9=>
cl Pg F.aI [s2.v] w9 [.one .slice] λ(s4:Sl) w10=>
R (s4.v) w10
theorem Ct.bG:CG (Sh.bG a b) F.bG [a.v,b.v] [.one .slice]:=cod 58 [] [] [(1,3,[(0,.one .slice),(1,.one .slice)]),(2,0,[(6,.one (.int .u64))]),(3,7,[(6,.one (.int .u64)),(26,.one (.int .i64))]),(1,11,[(8,.one (.int .u64))])] f124
def Sh.aP(a:Sl)(b:Sl):PR:=λR w=>
cl Pg F.aI [a.v] w [.one .slice] λ(s:Sl) w1=>
cl Pg F.aI [b.v] w1 [.one .slice] λ(s1:Sl) w2=>
cl Pg F.cO [s.v,s1.v] w2 [.one (.int .i64)] λ(r:Int) w3=>
cond (decide ((r:Int)<0)) (
R (.tuple #[.slice none 0 0,.bool false]) w3) (
mks w3 (s.n:Int) (s.n:Int) T.an 8 [.int .u64 0] λs2 w4=>
Jn [] (λJ0=>
Lp [.int .u64,.int .i64] (λ(c:Int)(x:Int) w5 C0=>
cond (decide ((x:Int)<(s.n:Int))) (
Jn [.int .u64] (λJ1=>
cond (decide ((x:Int)<(s1.n:Int))) (
ixa s1 x 1 λa1=>
ldc (.int .u64) w5 a1 λ(v:Int)=>
J1 v w5) (
J1 0 w5)) λ(y:Int) w6=>
ixa s x 1 λa2=>
ldc (.int .u64) w6 a2 λ(v1:Int)=>
kP v1 y c λs3 c1=>
ixa s2 x 1 λa3=>
stc w6 a3 (.int .u64 s3) λw7=>
bnd (wi (x+1)) λn=>
C0 c1 n w7) (
J0 w5)) 0 0 w4) fun  w8=>
cl Pg F.aI [s2.v] w8 [.one .slice] λ(s4:Sl) w9=>
R (.tuple #[s4.v,.bool true]) w9)
theorem Ct.aP:CG (Sh.aP a b) F.aP [a.v,b.v] [.one .slice,.one .bool]:=cod 50 [] [] [(2,0,[]),(3,7,[(7,.one (.int .u64)),(23,.one (.int .i64))]),(1,11,[(9,.one (.int .u64))])] f125
def Sh.bU(a:Sl)(n:Int):PR:=λR w=>
cl Pg F.eO [.int .i64 n,.int .i64 1048576] w [.one (.int .i64)] λ(r:Int) w1=>
cl Pg F.aI [a.v] w1 [.one .slice] λ(s:Sl) w2=>
d9 .i64 r 64 λn1=>
dV r 64 λn2=>
bnd (wu (n2)) λn3=>
cond (decide ((n1:Int)≥(s.n:Int))) (
R (.slice none 0 0) w2) (
bnd (wi ((s.n:Int)-n1)) λn4=>
mks w2 n4 n4 T.an 8 [.int .u64 0] λs1 w3=>
Jn [] (λJ0=>
Lp [.int .i64] (λ(x:Int) w4 C0=>
cond (decide ((x:Int)<(s1.n:Int))) (
bnd (wi (x+n1)) λn5=>
ixa s n5 1 λa1=>
ldc (.int .u64) w4 a1 λ(v:Int)=>
gJ .u64 v n3 λn6=>
ixa s1 x 1 λa2=>
stc w4 a2 (.int .u64 n6) λw5=>
Jn [.bool] (λJ1=>
cond (decide ((n3:Int)>0)) (
bnd (wi (x+n1)) λn7=>
bnd (wi (n7+1)) λn8=>
J1 (decide ((n8:Int)<(s.n:Int))) w5) (
J1 false w5)) λ(x1:Bool) w6=>
Jn [] (λJ2=>
cond x1 (
ixa s1 x 1 λa3=>
ldc (.int .u64) w6.drew a3 λ(v1:Int)=>
bnd (wi (x+n1)) λn9=>
bnd (wi (n9+1)) λn10=>
ixa s n10 1 λa4=>
ldc (.int .u64) w6.drew a4 λ(v2:Int)=>
bnd (wu (64-n3)) λn11=>
jv .u64 v2 n11 λn12=>
bnd (bg .or .u64 v1 n12) λn13=>
ixa s1 x 1 λa5=>
stc w6.drew a5 (.int .u64 n13) λw7=>
J2 w7) (
J2 w6)) fun  w8=>
bnd (wi (x+1)) λn14=>
C0 n14 w8) (
J0 w4)) 0 w3) fun  w9=>
cl Pg F.aI [s1.v] w9 [.one .slice] λ(s2:Sl) w10=>
R (s2.v) w10)
theorem Ct.bU:CG (Sh.bU a n) F.bU [a.v,.int .i64 n] [.one .slice]:=cod 75 [] [] [(2,0,[]),(3,8,[(29,.one (.int .i64))]),(0,11,[(53,.one .bool)]),(1,12,[])] f136
def Sh.bV(a:Sl)(n:Int):PR:=λR w=>
cl Pg F.eO [.int .i64 n,.int .i64 1048576] w [.one (.int .i64)] λ(r:Int) w1=>
cl Pg F.aI [a.v] w1 [.one .slice] λ(s:Sl) w2=>
cond (((s.n:Int):Int) == 0) (
R (.slice none 0 0) w2) (
d9 .i64 r 64 λn1=>
dV r 64 λn2=>
bnd (wu (n2)) λn3=>
bnd (wi ((s.n:Int)+n1)) λn4=>
bnd (wi (n4+1)) λn5=>
mks w2 n5 n5 T.an 8 [.int .u64 0] λs1 w3=>
Jn [] (λJ0=>
Lp [.int .i64] (λ(x:Int) w4 C0=>
cond (decide ((x:Int)<(s.n:Int))) (
ixa s x 1 λa1=>
ldc (.int .u64) w4 a1 λ(v:Int)=>
bnd (wi (x+n1)) λn6=>
bnd (wi (x+n1)) λn7=>
ixa s1 n7 1 λa2=>
ldc (.int .u64) w4 a2 λ(v1:Int)=>
jv .u64 v n3 λn8=>
bnd (bg .or .u64 v1 n8) λn9=>
ixa s1 n6 1 λa3=>
stc w4 a3 (.int .u64 n9) λw5=>
Jn [] (λJ1=>
cond (decide ((n3:Int)>0)) (
bnd (wi (x+n1)) λn10=>
bnd (wi (n10+1)) λn11=>
bnd (wu (64-n3)) λn12=>
gJ .u64 v n12 λn13=>
ixa s1 n11 1 λa4=>
stc w5 a4 (.int .u64 n13) λw6=>
J1 w6) (
J1 w5)) fun  w7=>
bnd (wi (x+1)) λn14=>
C0 n14 w7) (
J0 w4)) 0 w3) fun  w8=>
cl Pg F.aI [s1.v] w8 [.one .slice] λ(s2:Sl) w9=>
R (s2.v) w9)
theorem Ct.bV:CG (Sh.bV a n) F.bV [a.v,.int .i64 n] [.one .slice]:=cod 65 [] [] [(2,0,[]),(3,8,[(30,.one (.int .i64))]),(1,12,[])] f137
def Sh.dx(a:Sl)(y:Int):PR:=λR w=>
cond ((y:Int) == 0) (
R (.tuple #[.slice none 0 0,.int .u64 0,.int .i64 2]) w) (
cl Pg F.aI [a.v] w [.one .slice] λ(s:Sl) w1=>
mks w1 (s.n:Int) (s.n:Int) T.an 8 [.int .u64 0] λs1 w2=>
bnd (wi ((s.n:Int)-1)) λn=>
Jn [.int .u64] (λJ0=>
Lp [.int .u64,.int .i64] (λ(r:Int)(i:Int) w3 C0=>
cond (decide ((i:Int)≥0)) (
ixa s i 1 λa1=>
ldc (.int .u64) w3 a1 λ(v:Int)=>
cl Pg F.eU [.int .u64 r,.int .u64 v,.int .u64 y] w3 [.one (.int .u64),.one (.int .u64)] λ(r1:Int)(r2:Int) w4=>
ixa s1 i 1 λa2=>
stc w4 a2 (.int .u64 r1) λw5=>
bnd (wi (i-1)) λn1=>
C0 r2 n1 w5) (
J0 r w3)) 0 n w2) λ(r3:Int) w6=>
cl Pg F.aI [s1.v] w6 [.one .slice] λ(s2:Sl) w7=>
R (.tuple #[s2.v,.int .u64 r3,.int .i64 0]) w7)
theorem Ct.dx:CG (Sh.dx a y) F.dx [a.v,.int .u64 y] [.one .slice,.one (.int .u64),.one (.int .i64)]:=cod 40 [] [] [(2,0,[(8,.one (.int .u64))]),(3,7,[(8,.one (.int .u64)),(9,.one (.int .i64))])] f149
def Sh.fD(a:Sl)(b:Sl)(y:Int):PR:=λR w=>
cl Pg F.aI [a.v] w [.one .slice] λ(s:Sl) w1=>
cl Pg F.aI [b.v] w1 [.one .slice] λ(s1:Sl) w2=>
bnd (wi ((s1.n:Int)+1)) λn=>
bnd (if (n:Int)>(s.n:Int) then n else (s.n:Int)) λn1=>
bnd (wi (n1+1)) λn2=>
mks w2 n2 n2 T.an 8 [.int .u64 0] λs2 w3=>
cpy w3 T.an s2 s λ_ w4=>
Jn [] (λJ0=>
Lp [.int .u64,.int .i64] (λ(c:Int)(x:Int) w5 C0=>
cond (decide ((x:Int)<(s2.n:Int))) (
Jn [.bool] (λJ1=>
cond (decide ((x:Int)≥(s1.n:Int))) (
J1 ((c:Int) == 0) w5) (
J1 false w5)) λ(x1:Bool) w6=>
cond x1 (
J0 w6) (
Jn [.int .u64,.int .u64] (λJ2=>
cond (decide ((x:Int)<(s1.n:Int))) (
ixa s1 x 1 λa1=>
ldc (.int .u64) w6 a1 λ(v:Int)=>
cl Pg F.aL [.int .u64 v,.int .u64 y] w6 [.one (.int .u64),.one (.int .u64)] λ(r:Int)(r1:Int) w7=>
J2 r r1 w7) (
J2 0 0 w6)) λ(hi:Int)(lo:Int) w8=>
gv lo c 0 λs3 c1=>
bnd (wu (hi+c1)) λn4=>
ixa s2 x 1 λa2=>
ldc (.int .u64) w8 a2 λ(v1:Int)=>
gv v1 s3 0 λs4 c2=>
ixa s2 x 1 λa3=>
stc w8 a3 (.int .u64 s4) λw9=>
bnd (wu (n4+c2)) λn5=>
bnd (wi (x+1)) λn6=>
C0 n5 n6 w9)) (
J0 w5)) 0 0 w4) fun  w10=>
cl Pg F.aI [s2.v] w10 [.one .slice] λ(s5:Sl) w11=>
R (s5.v) w11
theorem Ct.fD:CG (Sh.fD a b y) F.fD [a.v,b.v,.int .u64 y] [.one .slice]:=cod 82 [] [] [(2,0,[]),(3,6,[(8,.one (.int .u64)),(31,.one (.int .i64))]),(0,8,[(41,.one .bool)]),(1,11,[(10,.one (.int .u64)),(11,.one (.int .u64))])] f151
def Sh.cq(k:Int)(parts:Sl):PR:=λR w=>
cl Pg F.eO [.int .i64 k,.int .i64 16384] w [.one (.int .i64)] λ(r:Int) w1=>
Jn [.int .i64] (λJ0=>
Lp [.int .i64,.int .i64] (λ(n:Int)(x:Int) w2 C0=>
cond (decide ((x:Int)<(parts.n:Int))) (
ixa parts x 1 λa=>
ldc (.slice) w2 a λ(v:Sl)=>
cl Pg F.aO [v.v] w2 [.one (.int .i64)] λ(r1:Int) w3=>
Jn [.int .i64] (λJ1=>
cond (decide ((r1:Int)>0)) (
bnd (wi (r*x)) λn1=>
bnd (wi (n1+r1)) λn2=>
bnd (if (n2:Int)>n then n2 else n) λn3=>
J1 n3 w3) (
J1 n w3)) λ(n4:Int) w4=>
bnd (wi (x+1)) λn5=>
C0 n4 n5 w4) (
J0 n w2)) 0 0 w1) λ(n6:Int) w5=>
bnd (wi (n6+2)) λn7=>
mks w5 n7 n7 T.an 8 [.int .u64 0] λs w6=>
Jn [] (λJ2=>
Lp [.int .i64] (λ(x1:Int) w7 C1=>
cond (decide ((x1:Int)<(parts.n:Int))) (
ixa parts x1 1 λa1=>
ldc (.slice) w7 a1 λ(v1:Sl)=>
cl Pg F.aI [v1.v] w7 [.one .slice] λ(s1:Sl) w8=>
Jn [] (λJ3=>
Lp [.int .u64,.int .i64] (λ(c:Int)(j:Int) w9 C2=>
Jn [.bool] (λJ4=>
cond (decide ((j:Int)<(s1.n:Int))) (
J4 true w9) (
J4 (decide ((c:Int)>0)) w9)) λ(x2:Bool) w10=>
cond x2 (
Jn [.int .u64] (λJ5=>
cond (decide ((j:Int)<(s1.n:Int))) (
ixa s1 j 1 λa2=>
ldc (.int .u64) w10 a2 λ(v2:Int)=>
J5 v2 w10) (
J5 0 w10)) λ(y:Int) w11=>
bnd (wi (r*x1)) λn8=>
bnd (wi (n8+j)) λn9=>
bnd (wi (r*x1)) λn10=>
bnd (wi (n10+j)) λn11=>
ixa s n11 1 λa3=>
ldc (.int .u64) w11 a3 λ(v3:Int)=>
gv v3 y c λs2 c1=>
ixa s n9 1 λa4=>
stc w11 a4 (.int .u64 s2) λw12=>
bnd (wi (j+1)) λn12=>
C2 c1 n12 w12) (
J3 w10)) 0 0 w8) fun  w13=>
bnd (wi (x1+1)) λn13=>
C1 n13 w13) (
J2 w7)) 0 w6) fun  w14=>
cl Pg F.aI [s.v] w14 [.one .slice] λ(s3:Sl) w15=>
R (s3.v) w15
theorem Ct.cq{parts:Sl}:CG (Sh.cq k parts) F.cq [.int .i64 k,parts.v] [.one .slice]:=cod 90 [] [] [(2,0,[(5,.one (.int .i64))]),(3,4,[(5,.one (.int .i64)),(19,.one (.int .i64))]),(1,8,[(5,.one (.int .i64))]),(2,2,[]),(3,12,[(41,.one (.int .i64))]),(2,4,[]),(3,17,[(12,.one (.int .u64)),(13,.one (.int .i64))]),(0,17,[(55,.one .bool)]),(1,21,[(14,.one (.int .u64))])] f163
def Sh.eO(n:Int)(most:Int):PR:=λR w=>
bnd (if (most:Int)<n then most else n) λn1=>
bnd (if (n1:Int)>0 then n1 else 0) λn2=>
R (.int .i64 n2) w
theorem Ct.eO{most:Int}:CG (Sh.eO n most) F.eO [.int .i64 n,.int .i64 most] [.one (.int .i64)]:=cod 9 [] [] [] f170
def Sh.kr(a:Sl)(n:Int):PR:=λR w=>
cl Pg F.eO [.int .i64 n,.int .i64 1048576] w [.one (.int .i64)] λ(r:Int) w1=>
cl Pg F.aI [a.v] w1 [.one .slice] λ(s:Sl) w2=>
d9 .i64 r 64 λn1=>
dV r 64 λn2=>
bnd (wu (n2)) λn3=>
cond (decide ((n1:Int)≥(s.n:Int))) (
apd w2 T.an 1 8 Sl.nil s λs1 w3=>
R (s1.v) w3) (
slc s 0 n1 1 λs2=>
apd w2 T.an 1 8 Sl.nil s2 λs3 w4=>
Jn [.slice] (λJ0=>
cond (decide ((n3:Int)>0)) (
ixa s n1 1 λa1=>
ldc (.int .u64) w4 a1 λ(v:Int)=>
jv .u64 1 n3 λn4=>
bnd (wu (n4-1)) λn5=>
bnd (bg .and .u64 v n5) λn6=>
nwb w4 [.int .u64 n6] T.an λb w5=>
apd w5 T.an 1 8 s3 ⟨(some ⟨b,0,none⟩),1,1⟩ λs4 w6=>
J0 s4 w6) (
J0 s3 w4)) λ(out:Sl) w7=>
cl Pg F.aI [out.v] w7 [.one .slice] λ(s5:Sl) w8=>
R (s5.v) w8)
theorem Ct.kr:CG (Sh.kr a n) F.kr [a.v,.int .i64 n] [.one .slice]:=cod 42 [] [] [(1,8,[(7,.one .slice)])] f172
def Sh.gf(a:Sl)(k:Int):PR:=λR w=>
cl Pg F.eO [.int .i64 k,.int .i64 16384] w [.one (.int .i64)] λ(r:Int) w1=>
cl Pg F.aI [a.v] w1 [.one .slice] λ(s:Sl) w2=>
cond (decide ((r:Int)≥(s.n:Int))) (
apd w2 T.an 1 8 Sl.nil s λs1 w3=>
R (.tuple #[s1.v,.slice none 0 0]) w3) (
slc s 0 r 1 λs2=>
slc s r (s.n:Nat) 1 λs3=>
cl Pg F.aF [s2.v] w2.drew [.one .slice] λ(s4:Sl) w4=>
apd w4 T.an 1 8 Sl.nil s3 λs5 w5=>
R (.tuple #[s4.v,s5.v]) w5)
theorem Ct.gf:CG (Sh.gf a k) F.gf [a.v,.int .i64 k] [.one .slice,.one .slice]:=cod 24 [] [] [] f195
def Sh.iV(a:Sl)(b:Sl)(y:Int):PR:=λR w=>
cl Pg F.cN [b.v,.int .u64 y] w [.one .slice] λ(s:Sl) w1=>
cl Pg F.aP [a.v,s.v] w1 [.one .slice,.one .bool] λ(s1:Sl)(ok:Bool) w2=>
R (.tuple #[s1.v,.bool ok]) w2
theorem Ct.iV:CG (Sh.iV a b y) F.iV [a.v,b.v,.int .u64 y] [.one .slice,.one .bool]:=cod 15 [] [] [] f201
def Sh.jW(l:Sl):PR:=λR w=>
cl Pg F.cq [.int .i64 0,l.v] w [.one .slice] λ(s:Sl) w1=>
R (s.v) w1
theorem Ct.jW{l:Sl}:CG (Sh.jW l) F.jW [l.v] [.one .slice]:=cod 5 [] [] [] f246
end
section
set_option maxRecDepth 100000
open Go.Proofs.Tryz
variable {m:Option Addr}
def Sh.aS(m:Option Addr)(n:Int):PR:=λR w=>
Jn [] (λJ0=>
cond (decide ((n:Int)>0)) (
nck m λa=>
ldc (.int .i64) w a λ(v:Int)=>
bnd (wi (v+n)) λn1=>
nck m λa1=>
stc w a1 (.int .i64 n1) λw1=>
J0 w1) (
J0 w)) fun  w2=>
nck m λa2=>
ldc (.int .i64) w2 a2 λ(v1:Int)=>
R (.int .i64 v1) w2
theorem Ct.aS{n:Int}:CG (Sh.aS m n) F.aS [.pointer m,.int .i64 n] [.one (.int .i64)]:=cod 20 [] [] [(1,2,[])] f147
def Sh.eG(m:Option Addr):PR:=λR w=>
nck m λa=>
ldc (.int .i64) w a λ(v:Int)=>
R (.int .i64 v) w
theorem Ct.eG:CG (Sh.eG m) F.eG [.pointer m] [.one (.int .i64)]:=cod 7 [] [] [] f148
def Sh.br(m:Option Addr):PR:=λR w=>
nck m λa=>
ldc (.int .i64) w (a.add 1) λ(v:Int)=>
bnd (wi (v+1)) λn=>
nck m λa1=>
stc w (a1.add 1) (.int .i64 n) λw1=>
nck m λa2=>
ldc (.int .i64) w1.drew (a2.add 2) λ(v1:Int)=>
nck m λa3=>
ldc (.int .i64) w1.drew (a3.add 1) λ(v2:Int)=>
bnd (if (v2:Int)>v1 then v2 else v1) λn1=>
nck m λa4=>
stc w1.drew (a4.add 2) (.int .i64 n1) λw2=>
nck m λa5=>
ldc (.int .i64) w2 (a5.add 1) λ(v3:Int)=>
R (.int .i64 v3) w2
theorem Ct.br:CG (Sh.br m) F.br [.pointer m] [.one (.int .i64)]:=cod 26 [] [] [] f194
def Sh.bq(m:Option Addr):PR:=λR w=>
nck m λa=>
ldc (.int .i64) w (a.add 1) λ(v:Int)=>
Jn [] (λJ0=>
cond (decide ((v:Int)>0)) (
nck m λa1=>
ldc (.int .i64) w (a1.add 1) λ(v1:Int)=>
bnd (wi (v1-1)) λn=>
nck m λa2=>
stc w (a2.add 1) (.int .i64 n) λw1=>
J0 w1) (
J0 w)) fun  w2=>
nck m λa3=>
ldc (.int .i64) w2 (a3.add 1) λ(v2:Int)=>
R (.int .i64 v2) w2
theorem Ct.bq:CG (Sh.bq m) F.bq [.pointer m] [.one (.int .i64)]:=cod 19 [] [] [(1,2,[])] f197
end
section
set_option maxRecDepth 100000
open Go.Proofs.Tryz
variable {e0:Option Addr} {m:Sl}
def Sh.ko(t:HL I11):PR:=λR w=>
nwv w λw1=>
cl Pg F.kV [.agg (aM I11 t).toArray] w1 [.one .ptr] λ(p:OA) w2=>
nwb w2 [.pointer p] T.wM λb w3=>
R (.pointer (some ⟨b,0,none⟩)) w3
theorem Ct.ko{t:HL I11}:CG (Sh.ko t) F.ko [.agg (aM I11 t).toArray] [.one .ptr]:=cod 7 [(1,7)] [(7,11)] [] f108
def Sh.dc(e0:Option Addr)(p0:Sl)(p1:Sl):PR:=λR w=>
nwv w λw1=>
nwv w1 λw2=>
nck e0 λa=>
ldc (.ptr) w2.drew a λ(v:OA)=>
nck v λa1=>
ldc (.ptr) w2.drew a1 λ(v1:OA)=>
nck v1 λa2=>
ldc (.ptr) w2.drew a2 λ(v2:OA)=>
nck v2 λa3=>
ldc (.ptr) w2.drew a3 λ(v3:OA)=>
nck v3 λa4=>
ldc (.ptr) w2.drew a4 λ(v4:OA)=>
nck v4 λa5=>
ldc (.ptr) w2.drew a5 λ(v5:OA)=>
nck v5 λa6=>
ldc (.ptr) w2.drew a6 λ(v6:OA)=>
cl Pg F.ay [.pointer v6,p0.v,p1.v] w2.drew [.one .slice,.one .slice,.one (.int .i64)] λ(_:Sl)(s1:Sl)(r:Int) w3=>
hld w3 [(a5,.pointer v5),(a4,.pointer v4),(a3,.pointer v3),(a2,.pointer v2),(a1,.pointer v1),(a,.pointer v)] <|
cond ((r:Int) != 0) (
nwv w3 λw4=>
R (.tuple #[.agg #[.slice none 0 0,.bool false],.int .i64 r]) w4) (
cl Pg F.bV [s1.v,.int .i64 1] w3.drew [.one .slice] λ(s2:Sl) w5=>
cl Pg F.cO [s2.v,p1.v] w5 [.one (.int .i64)] λ(r1:Int) w6=>
cond (decide ((r1:Int)>0)) (
cl Pg F.aP [p1.v,s1.v] w6 [.one .slice,.one .bool] λ(s3:Sl)(_:Bool) w7=>
nwv w7 λw8=>
R (.tuple #[.agg #[s3.v,.bool true],.int .i64 0]) w8) (
nwv w6 λw9=>
R (.tuple #[.agg #[s1.v,.bool false],.int .i64 0]) w9))
theorem Ct.dc{p0:Sl}{p1:Sl}:CG (Sh.dc e0 p0 p1) F.dc [.pointer e0,.agg #[p0.v,p1.v]] [.agg [.slice,.bool],.one (.int .i64)]:=cod 61 [(3,61),(4,63)] [(61,2),(63,2)] [] f120
def Sh.cA(e0:Option Addr)(a:Sl)(m:Sl):PR:=λR w=>
cl Pg F.aB [m.v] w [.one .bool] λ(ok:Bool) w1=>
cond ok (
R (.tuple #[.slice none 0 0,.int .i64 2]) w1) (
nck e0 λa1=>
ldc (.ptr) w1 a1 λ(v:OA)=>
ch 5 w1 v λ(v6:OA)=>
cl Pg F.ay [.pointer v6,a.v,m.v] w1 [.one .slice,.one .slice,.one (.int .i64)] λ(_:Sl)(s1:Sl)(_:Int) w2=>
nck e0 λa8=>
ldc (.ptr) w2 a8 λ(v7:OA)=>
cl Pg F.eI [.pointer v7,s1.v,m.v] w2 [.one .slice,.agg [.slice,.bool],.agg [.slice,.bool]] λ(s2:Sl)(r1:Sl)(r2:Bool)(_:Sl)(_:Bool) w3=>
nwv w3 λw4=>
nwv w4 λw5=>
nwv w5 λw6=>
nwv w6 λw7=>
cl Pg F.aX [.int .u64 1] w7 [.one .slice] λ(s3:Sl) w8=>
cl Pg F.cO [s2.v,s3.v] w8 [.one (.int .i64)] λ(r5:Int) w9=>
cond ((r5:Int) != 0) (
R (.tuple #[.slice none 0 0,.int .i64 4]) w9) (
cl Pg F.cy [.pointer e0,.agg #[r1.v,.bool r2],m.v] w9 [.one .slice,.one (.int .i64)] λ(s4:Sl)(r6:Int) w10=>
R (.tuple #[s4.v,.int .i64 r6]) w10))
theorem Ct.cA{a:Sl}:CG (Sh.cA e0 a m) F.cA [.pointer e0,a.v,m.v] [.one .slice,.one (.int .i64)]:=cod 63 [(9,63),(10,65)] [(63,2),(65,2)] [] f150
def Sh.cy(e0:Option Addr)(a0:Sl)(a1:Bool)(m:Sl):PR:=λR w=>
nwv w λw1=>
nck e0 λa2=>
ldc (.ptr) w1.drew a2 λ(v:OA)=>
nck v λa3=>
ldc (.ptr) w1.drew a3 λ(v1:OA)=>
nck v1 λa4=>
ldc (.ptr) w1.drew a4 λ(v2:OA)=>
nck v2 λa5=>
ldc (.ptr) w1.drew a5 λ(v3:OA)=>
nck v3 λa6=>
ldc (.ptr) w1.drew a6 λ(v4:OA)=>
nck v4 λa7=>
ldc (.ptr) w1.drew a7 λ(v5:OA)=>
nck v5 λa8=>
ldc (.ptr) w1.drew a8 λ(v6:OA)=>
cl Pg F.ay [.pointer v6,a0.v,m.v] w1.drew [.one .slice,.one .slice,.one (.int .i64)] λ(_:Sl)(s1:Sl)(r:Int) w2=>
hld w2 [(a7,.pointer v5),(a6,.pointer v4),(a5,.pointer v3),(a4,.pointer v2),(a3,.pointer v1),(a2,.pointer v)] <|
cond ((r:Int) != 0) (
R (.tuple #[.slice none 0 0,.int .i64 r]) w2) (
Jn [.bool] (λJ0=>
cond a1 (
cl Pg F.aB [s1.v] w2 [.one .bool] λ(ok:Bool) w3=>
J0 (!ok) w3) (
J0 false w2)) λ(x:Bool) w4=>
Jn [.slice] (λJ1=>
cond x (
cl Pg F.aP [m.v,s1.v] w4 [.one .slice,.one .bool] λ(s2:Sl)(_:Bool) w5=>
J1 s2 w5) (
J1 s1 w4)) λ(r1:Sl) w6=>
R (.tuple #[r1.v,.int .i64 0]) w6)
theorem Ct.cy{a0:Sl}{a1:Bool}:CG (Sh.cy e0 a0 a1 m) F.cy [.pointer e0,.agg #[a0.v,.bool a1],m.v] [.one .slice,.one (.int .i64)]:=cod 58 [(4,58)] [(58,2)] [(0,4,[(50,.one .bool)]),(1,5,[(9,.one .slice)])] f183
end
section
set_option maxRecDepth 100000
open Go.Proofs.Tryz
variable {m:Option Addr} {a b y:Int}
def Sh.fC(m:Option Addr)(a:Int):PR:=λR w=>
nck m λa1=>
ldc (.int .u64) w a1 λ(v:Int)=>
dV a v λn=>
R (.int .u64 n) w
theorem Ct.fC:CG (Sh.fC m a) F.fC [.pointer m,.int .u64 a] [.one (.int .u64)]:=cod 11 [] [] [] f205
def Sh.dw(m:Option Addr)(a:Int)(b:Int):PR:=λR w=>
nck m λa1=>
ldc (.int .u64) w.drew a1 λ(v:Int)=>
dV a v λn=>
nck m λa2=>
ldc (.int .u64) w.drew a2 λ(v1:Int)=>
dV b v1 λn1=>
cl Pg F.io [.pointer m,.int .u64 n,.int .u64 n1] w.drew [.one (.int .u64)] λ(r:Int) w1=>
hld w1 [(a2,.int .u64 v1),(a1,.int .u64 v)] <|
R (.int .u64 r) w1
theorem Ct.dw:CG (Sh.dw m a b) F.dw [.pointer m,.int .u64 a,.int .u64 b] [.one (.int .u64)]:=cod 21 [] [] [] f207
def Sh.bf(m:Option Addr)(a:Int)(b:Int):PR:=λR w=>
nck m λa1=>
ldc (.int .u64) w.drew a1 λ(v:Int)=>
dV a v λn=>
nck m λa2=>
ldc (.int .u64) w.drew a2 λ(v1:Int)=>
dV b v1 λn1=>
cl Pg F.cM [.pointer m,.int .u64 n,.int .u64 n1] w.drew [.one (.int .u64)] λ(r:Int) w1=>
hld w1 [(a2,.int .u64 v1),(a1,.int .u64 v)] <|
R (.int .u64 r) w1
theorem Ct.bf:CG (Sh.bf m a b) F.bf [.pointer m,.int .u64 a,.int .u64 b] [.one (.int .u64)]:=cod 21 [] [] [] f208
def Sh.iL(m:Option Addr):PR:=λR w=>
nck m λa=>
ldc (.int .u64) w a λ(v:Int)=>
R (.int .u64 v) w
theorem Ct.iL:CG (Sh.iL m) F.iL [.pointer m] [.one (.int .u64)]:=cod 7 [] [] [] f214
def Sh.i9(p:Int):PR:=λR w=>
Jn [.bool] (λJ0=>
cond (decide ((p:Int)<3)) (
J0 true w) (
dV p 2 λn=>
cond ((n:Int) == 0) (
J0 true w) (
J0 (decide ((p:Int)≥4611686018427387904)) w))) λ(x:Bool) w1=>
cond x (
R (.tuple #[.pointer none,.int .i64 3]) w1) (
Jn [.int .u64] (λJ1=>
Lp [.int .u64,.int .i64] (λ(inv:Int)(x1:Int) w2 C0=>
cond (decide ((x1:Int)<6)) (
bnd (wu (p*inv)) λn1=>
bnd (wu (2-n1)) λn2=>
bnd (wu (inv*n2)) λn3=>
bnd (wi (x1+1)) λn4=>
C0 n3 n4 w2) (
J1 inv w2)) p 0 w1) λ(inv1:Int) w3=>
bnd (wu (0-inv1)) λn5=>
nwb w3 [.int .u64 p,.int .u64 n5,.int .u64 0,.int .u64 0] T.abJ λb w4=>
cl Pg F.eU [.int .u64 1,.int .u64 0,.int .u64 p] w4 [.one (.int .u64),.one (.int .u64)] λ(_:Int)(r1:Int) w5=>
stc w5 (Addr.add ⟨b,0,none⟩ 2) (.int .u64 r1) λw6=>
ldc (.int .u64) w6.drew (Addr.add ⟨b,0,none⟩ 2) λ(v:Int)=>
ldc (.int .u64) w6.drew (Addr.add ⟨b,0,none⟩ 2) λ(v1:Int)=>
cl Pg F.cM [.pointer (some ⟨b,0,none⟩),.int .u64 v,.int .u64 v1] w6.drew [.one (.int .u64)] λ(r2:Int) w7=>
stc w7 (Addr.add ⟨b,0,none⟩ 3) (.int .u64 r2) λw8=>
R (.tuple #[.pointer (some ⟨b,0,none⟩),.int .i64 0]) w8)
theorem Ct.i9{p:Int}:CG (Sh.i9 p) F.i9 [.int .u64 p] [.one .ptr,.one (.int .i64)]:=cod 54 [] [] [(0,1,[(16,.one .bool)]),(2,0,[(4,.one (.int .u64))]),(3,5,[(4,.one (.int .u64)),(18,.one (.int .i64))])] f231
def Sh.io(m:Option Addr)(a:Int)(b:Int):PR:=λR w=>
bnd (wu (a+b)) λn=>
nck m λa1=>
ldc (.int .u64) w a1 λ(v:Int)=>
Jn [.int .u64] (λJ0=>
cond (decide ((n:Int)≥v)) (
nck m λa2=>
ldc (.int .u64) w a2 λ(v1:Int)=>
bnd (wu (n-v1)) λn1=>
J0 n1 w) (
J0 n w)) λ(s:Int) w1=>
R (.int .u64 s) w1
theorem Ct.io:CG (Sh.io m a b) F.io [.pointer m,.int .u64 a,.int .u64 b] [.one (.int .u64)]:=cod 24 [] [] [(1,3,[(7,.one (.int .u64))])] f232
def Sh.cM(m:Option Addr)(a:Int)(b:Int):PR:=λR w=>
cl Pg F.aL [.int .u64 a,.int .u64 b] w [.one (.int .u64),.one (.int .u64)] λ(r:Int)(r1:Int) w1=>
nck m λa1=>
ldc (.int .u64) w1 a1 λ(v:Int)=>
cl Pg F.eU [.int .u64 r,.int .u64 r1,.int .u64 v] w1 [.one (.int .u64),.one (.int .u64)] λ(_:Int)(r3:Int) w2=>
R (.int .u64 r3) w2
theorem Ct.cM:CG (Sh.cM m a b) F.cM [.pointer m,.int .u64 a,.int .u64 b] [.one (.int .u64)]:=cod 28 [] [] [] f233
def Sh.fB(m:Option Addr)(a:Int)(b:Int):PR:=λR w=>
nck m λa1=>
ldc (.int .u64) w.drew a1 λ(v:Int)=>
dV a v λn=>
nck m λa2=>
ldc (.int .u64) w.drew a2 λ(v1:Int)=>
dV b v1 λn1=>
cl Pg F.fZ [.pointer m,.int .u64 n,.int .u64 n1] w.drew [.one (.int .u64)] λ(r:Int) w1=>
hld w1 [(a2,.int .u64 v1),(a1,.int .u64 v)] <|
R (.int .u64 r) w1
theorem Ct.fB:CG (Sh.fB m a b) F.fB [.pointer m,.int .u64 a,.int .u64 b] [.one (.int .u64)]:=cod 21 [] [] [] f234
def Sh.fZ(m:Option Addr)(a:Int)(b:Int):PR:=λR w=>
cond (decide ((a:Int)≥b)) (
bnd (wu (a-b)) λn=>
R (.int .u64 n) w) (
nck m λa1=>
ldc (.int .u64) w a1 λ(v:Int)=>
bnd (wu (a+v)) λn1=>
bnd (wu (n1-b)) λn2=>
R (.int .u64 n2) w)
theorem Ct.fZ:CG (Sh.fZ m a b) F.fZ [.pointer m,.int .u64 a,.int .u64 b] [.one (.int .u64)]:=cod 21 [] [] [] f252
def Sh.eF(m:Option Addr)(a:Int):PR:=λR w=>
nck m λa1=>
ldc (.int .u64) w.drew a1 λ(v:Int)=>
nck m λa2=>
ldc (.int .u64) w.drew a2 λ(v1:Int)=>
dV a v1 λn=>
Jn [.int .u64,.int .u64] (λJ0=>
Lp [.int .u64,.int .u64,.int .u64,.int .u64] (λ(r:Int)(s:Int)(x:Int)(y:Int) w1 C0=>
cond (decide ((s:Int)>0)) (
d9 .u64 r s λn1=>
bnd (wu (n1*s)) λn2=>
bnd (wu (r-n2)) λn3=>
nck m λa3=>
ldc (.int .u64) w1 a3 λ(v2:Int)=>
dV n1 v2 λn4=>
cl Pg F.cM [.pointer m,.int .u64 n4,.int .u64 y] w1 [.one (.int .u64)] λ(r1:Int) w2=>
cl Pg F.fZ [.pointer m,.int .u64 x,.int .u64 r1] w2 [.one (.int .u64)] λ(r2:Int) w3=>
C0 s n3 y r2 w3) (
J0 r x w1)) v n 0 1 w.drew) λ(r3:Int)(x1:Int) w4=>
cond ((r3:Int) != 1) (
R (.tuple #[.int .u64 0,.bool false]) w4) (
R (.tuple #[.int .u64 x1,.bool true]) w4)
theorem Ct.eF:CG (Sh.eF m a) F.eF [.pointer m,.int .u64 a] [.one (.int .u64),.one .bool]:=cod 48 [] [] [(2,0,[(6,.one (.int .u64)),(8,.one (.int .u64))]),(3,3,[(6,.one (.int .u64)),(7,.one (.int .u64)),(8,.one (.int .u64)),(9,.one (.int .u64))])] f262
def Sh.ge(m:Option Addr)(a:Int)(n:Int):PR:=λR w=>
nck m λa1=>
ldc (.int .u64) w.drew a1 λ(v:Int)=>
dV a v λn1=>
nck m λa2=>
ldc (.int .u64) w.drew (a2.add 2) λ(v1:Int)=>
cl Pg F.gt [.pointer m,.int .u64 n1] w.drew [.one (.int .u64)] λ(r:Int) w1=>
hld w1 [((a2.add 2),.int .u64 v1),(a1,.int .u64 v)] <|
Jn [.int .u64] (λJ0=>
Lp [.int .u64,.int .u64,.int .u64] (λ(n2:Int)(x:Int)(out:Int) w2 C0=>
cond (decide ((n2:Int)>0)) (
dV n2 2 λn3=>
Jn [.int .u64] (λJ1=>
cond ((n3:Int) == 1) (
cl Pg F.aL [.int .u64 out,.int .u64 x] w2 [.one (.int .u64),.one (.int .u64)] λ(r1:Int)(r2:Int) w3=>
cl Pg F.cL [.pointer m,.int .u64 r1,.int .u64 r2] w3 [.one (.int .u64)] λ(r3:Int) w4=>
J1 r3 w4) (
J1 out w2)) λ(out1:Int) w5=>
cl Pg F.aL [.int .u64 x,.int .u64 x] w5 [.one (.int .u64),.one (.int .u64)] λ(r4:Int)(r5:Int) w6=>
cl Pg F.cL [.pointer m,.int .u64 r4,.int .u64 r5] w6 [.one (.int .u64)] λ(r6:Int) w7=>
d9 .u64 n2 2 λn4=>
C0 n4 r6 out1 w7) (
J0 out w2)) n r v1 w1) λ(out2:Int) w8=>
cl Pg F.cL [.pointer m,.int .u64 0,.int .u64 out2] w8 [.one (.int .u64)] λ(r7:Int) w9=>
R (.int .u64 r7) w9
theorem Ct.ge{n:Int}:CG (Sh.ge m a n) F.ge [.pointer m,.int .u64 a,.int .u64 n] [.one (.int .u64)]:=cod 45 [] [] [(2,0,[(8,.one (.int .u64))]),(3,2,[(2,.one (.int .u64)),(7,.one (.int .u64)),(8,.one (.int .u64))]),(1,4,[(8,.one (.int .u64))])] f268
def Sh.fN(m:Option Addr)(y:Int):PR:=λR w=>
nck m λa=>
ldc (.int .u64) w.drew a λ(v:Int)=>
dV y v λn=>
nck m λa1=>
ldc (.int .u64) w.drew a1 λ(v1:Int)=>
cl Pg F.eU [.int .u64 n,.int .u64 0,.int .u64 v1] w.drew [.one (.int .u64),.one (.int .u64)] λ(r:Int)(_:Int) w1=>
hld w1 [(a,.int .u64 v)] <|
R (.int .u64 r) w1
theorem Ct.fN:CG (Sh.fN m y) F.fN [.pointer m,.int .u64 y] [.one (.int .u64)]:=cod 22 [] [] [] f269
def Sh.gt(m:Option Addr)(a:Int):PR:=λR w=>
nck m λa1=>
ldc (.int .u64) w (a1.add 3) λ(v:Int)=>
cl Pg F.aL [.int .u64 a,.int .u64 v] w [.one (.int .u64),.one (.int .u64)] λ(r:Int)(r1:Int) w1=>
cl Pg F.cL [.pointer m,.int .u64 r,.int .u64 r1] w1 [.one (.int .u64)] λ(r2:Int) w2=>
R (.int .u64 r2) w2
theorem Ct.gt:CG (Sh.gt m a) F.gt [.pointer m,.int .u64 a] [.one (.int .u64)]:=cod 15 [] [] [] f273
def Sh.cL(m:Option Addr)(hi:Int)(lo:Int):PR:=λR w=>
nck m λa=>
ldc (.int .u64) w (a.add 1) λ(v:Int)=>
bnd (wu (lo*v)) λn=>
nck m λa1=>
ldc (.int .u64) w a1 λ(v1:Int)=>
cl Pg F.aL [.int .u64 n,.int .u64 v1] w [.one (.int .u64),.one (.int .u64)] λ(r:Int)(r1:Int) w1=>
gv lo r1 0 λ_ c=>
gv hi r c λs1 _=>
nck m λa2=>
ldc (.int .u64) w1 a2 λ(v2:Int)=>
Jn [.int .u64] (λJ0=>
cond (decide ((s1:Int)≥v2)) (
nck m λa3=>
ldc (.int .u64) w1 a3 λ(v3:Int)=>
bnd (wu (s1-v3)) λn1=>
J0 n1 w1) (
J0 s1 w1)) λ(s2:Int) w2=>
R (.int .u64 s2) w2
theorem Ct.cL{hi:Int}{lo:Int}:CG (Sh.cL m hi lo) F.cL [.pointer m,.int .u64 hi,.int .u64 lo] [.one (.int .u64)]:=cod 55 [] [] [(1,6,[(12,.one (.int .u64))])] f274
def Sh.dJ(m:Option Addr)(a:Int)(y:Int)(s:Int):PR:=λR w=>
nck m λa1=>
ldc (.int .u64) w.drew a1 λ(v:Int)=>
dV a v λn=>
nck m λa2=>
ldc (.int .u64) w.drew a2 λ(v1:Int)=>
dV y v1 λn1=>
cl Pg F.aL [.int .u64 n,.int .u64 s] w.drew [.one (.int .u64),.one (.int .u64)] λ(r:Int)(_:Int) w1=>
bnd (wu (n*n1)) λn2=>
nck m λa3=>
ldc (.int .u64) w1 a3 λ(v2:Int)=>
bnd (wu (r*v2)) λn3=>
bnd (wu (n2-n3)) λn4=>
nck m λa4=>
ldc (.int .u64) w1 a4 λ(v3:Int)=>
Jn [.int .u64] (λJ0=>
cond (decide ((n4:Int)≥v3)) (
nck m λa5=>
ldc (.int .u64) w1 a5 λ(v4:Int)=>
bnd (wu (n4-v4)) λn5=>
J0 n5 w1) (
J0 n4 w1)) λ(r2:Int) w2=>
nck m λa6=>
ldc (.int .u64) w2 a6 λ(v5:Int)=>
dV r2 v5 λn6=>
R (.int .u64 n6) w2
theorem Ct.dJ{s:Int}:CG (Sh.dJ m a y s) F.dJ [.pointer m,.int .u64 a,.int .u64 y,.int .u64 s] [.one (.int .u64)]:=cod 58 [] [] [(1,5,[(11,.one (.int .u64))])] f276
end
end Go.Proofs.YtpbimnlggalnfaaGreatDoor.Zg
