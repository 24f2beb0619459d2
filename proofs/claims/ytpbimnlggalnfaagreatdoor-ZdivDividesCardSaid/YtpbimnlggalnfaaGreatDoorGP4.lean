/- A part of the proofs of this seat's laws. -/
import Derived.Test.YtpbimnlggalnfaaGreatDoorGC
set_option linter.unusedVariables false
set_option linter.unusedSimpArgs false
set_option linter.unnecessarySimpa false
namespace Go.Proofs.YtpbimnlggalnfaaGreatDoor.Zg
open Go.RowKit
section
set_option maxRecDepth 100000
open Go.Proofs.Tryz
variable {e0:Option Addr} {a b:Sl}
def Sh.jx(t:HL I11):PR:=λR w=>
nwv w λw1=>
cl Pg F.mj [.agg (aM I11 t).toArray] w1 [.one .ptr] λ(p:OA) w2=>
nwb w2 [.pointer p] T.wJ λb w3=>
R (.pointer (some ⟨b,0,none⟩)) w3
theorem Ct.jx{t:HL I11}:CG (Sh.jx t) F.jx [.agg (aM I11 t).toArray] [.one .ptr]:=cod 7 [(1,7)] [(7,11)] [] f15
def Sh.aK(e0:Option Addr)(a:Sl):PR:=λR w=>
nwv w λw1=>
cl Pg F.ba [a.v] w1 [.one .slice] λ(s:Sl) w2=>
cond (((s.n:Int):Int) == 0) (
nwv w2 λw3=>
R (.tuple #[.agg #[.slice none 0 0,.bool false],.slice none 0 0]) w3) (
nwb w2 [s.v] T.bO λb w4=>
cl Pg F.cx [.pointer e0,.slice (some ⟨b,0,none⟩) 1 1] w4 [.one .slice] λ(s1:Sl) w5=>
cl Pg F.cW [s.v] w5 [.agg [.slice,.bool]] λ(_:Sl)(r1:Bool) w6=>
nwv w6 λw7=>
nwv w7 λw8=>
nck e0 λa1=>
ldc (.ptr) w8.drew a1 λ(v:OA)=>
nck v λa2=>
ldc (.ptr) w8.drew a2 λ(v1:OA)=>
cl Pg F.cI [.pointer v1,s.v,.agg #[s1.v,.bool r1]] w8.drew [.one .slice,.one (.int .i64)] λ(s2:Sl)(_:Int) w9=>
hld w9 [(a1,.pointer v)] <|
nwv w9 λw10=>
R (.tuple #[.agg #[s1.v,.bool r1],s2.v]) w10)
theorem Ct.aK:CG (Sh.aK e0 a) F.aK [.pointer e0,a.v] [.agg [.slice,.bool],.one .slice]:=cod 38 [(4,38),(6,40)] [(38,2),(40,2)] [] f18
def Sh.cx(e0:Option Addr)(l:Sl):PR:=λR w=>
Jn [.slice] (λJ0=>
Lp [.slice,.int .i64] (λ(g:Sl)(x:Int) w1 C0=>
cond (decide ((x:Int)<(l.n:Int))) (
ixa l x 1 λa=>
ldc (.slice) w1 a λ(v:Sl)=>
Jn [.slice] (λJ1=>
Lp [.slice,.int .i64] (λ(g1:Sl)(x1:Int) w2 C1=>
cond (decide ((x1:Int)<(v.n:Int))) (
ixa v x1 2 λa1=>
ldc (.slice) w2 (a1.add 0) λ(v1:Sl)=>
ldc (.bool) w2 (a1.add 1) λ(_:Bool)=>
nwv w2 λw3=>
nwv w3 λw4=>
nck e0 λa2=>
ldc (.ptr) w4.drew a2 λ(v3:OA)=>
nck v3 λa3=>
ldc (.ptr) w4.drew a3 λ(v4:OA)=>
nck v4 λa4=>
ldc (.ptr) w4.drew a4 λ(v5:OA)=>
nck v5 λa5=>
ldc (.ptr) w4.drew a5 λ(v6:OA)=>
nck v6 λa6=>
ldc (.ptr) w4.drew a6 λ(v7:OA)=>
nwb w4.drew [g1.v,v1.v] T.bP λb w5=>
hld w5 [(a6,.pointer v7),(a5,.pointer v6),(a4,.pointer v5),(a3,.pointer v4),(a2,.pointer v3)] <|
cl Pg F.cP [.pointer v7,.slice (some ⟨b,0,none⟩) 2 2] w5 [.one .slice] λ(s:Sl) w6=>
hld w6 [(a5,.pointer v6),(a4,.pointer v5),(a3,.pointer v4),(a2,.pointer v3)] <|
bnd (wi (x1+1)) λn=>
C1 s n w6) (
J1 g1 w2)) g 0 w1) λ(g2:Sl) w7=>
bnd (wi (x+1)) λn1=>
C0 g2 n1 w7) (
J0 g w1)) Sl.nil 0 w) λ(g3:Sl) w8=>
R (g3.v) w8
theorem Ct.cx{l:Sl}:CG (Sh.cx e0 l) F.cx [.pointer e0,l.v] [.one .slice]:=cod 46 [(9,46)] [(46,2)] [(2,0,[(5,.one .slice)]),(3,3,[(5,.one .slice),(12,.one (.int .i64))]),(2,2,[(5,.one .slice)]),(3,6,[(5,.one .slice),(18,.one (.int .i64))])] f21
def Sh.bC(e0:Option Addr)(x:Sl)(y:Sl):PR:=λR w=>
cond (((x.n:Int):Int) != (y.n:Int)) (
R (.tuple #[.slice none 0 0,.int .i64 1]) w) (
Jn [] (λJ0=>
Lp [.int .i64] (λ(x1:Int) w1 C0=>
cond (decide ((x1:Int)<(x.n:Int))) (
Jn [] (λJ1=>
Lp [.int .i64] (λ(x2:Int) w2 C1=>
cond (decide ((x2:Int)<x1)) (
ixa x x1 2 λa=>
ldc (.slice) w2.drew (a.add 0) λ(v:Sl)=>
ldc (.bool) w2.drew (a.add 1) λ(v1:Bool)=>
ixa x x2 2 λa1=>
ldc (.slice) w2.drew (a1.add 0) λ(v2:Sl)=>
ldc (.bool) w2.drew (a1.add 1) λ(v3:Bool)=>
cl Pg F.ln [.agg #[v.v,.bool v1],.agg #[v2.v,.bool v3]] w2.drew [.one (.int .i64)] λ(r:Int) w3=>
cond ((r:Int) == 0) (
R (.tuple #[.slice none 0 0,.int .i64 6]) w3) (
bnd (wi (x2+1)) λn=>
C1 n w3)) (
J1 w2)) 0 w1) fun  w4=>
bnd (wi (x1+1)) λn1=>
C0 n1 w4) (
J0 w1)) 0 w) fun  w5=>
cl Pg F.aX [.int .u64 1] w5 [.one .slice] λ(s:Sl) w6=>
Jn [.slice,.slice,.slice] (λJ2=>
Lp [.slice,.slice,.slice,.int .i64] (λ(tops:Sl)(downs:Sl)(below:Sl)(x3:Int) w7 C2=>
cond (decide ((x3:Int)<(x.n:Int))) (
cl Pg F.gz [.int .i64 1] w7 [.agg [.slice,.bool]] λ(r1:Sl)(r2:Bool) w8=>
nwb w8 [r1.v,.bool r2] T.af λb w9=>
cl Pg F.gz [.int .i64 1] w9 [.agg [.slice,.bool]] λ(r3:Sl)(r4:Bool) w10=>
nwv w10 λw11=>
nwv w11 λw12=>
Jn [.slice,.slice,.bool] (λJ3=>
Lp [.slice,.int .i64,.slice,.bool] (λ(top:Sl)(x4:Int)(down:Sl)(down1:Bool) w13 C3=>
cond (decide ((x4:Int)<(x.n:Int))) (
Jn [.slice,.slice,.bool] (λJ4=>
cond ((x4:Int) != x3) (
nck e0 λa2=>
ldc (.ptr) w13.drew a2 λ(v4:OA)=>
ixa x x4 2 λa3=>
ldc (.slice) w13.drew (a3.add 0) λ(v5:Sl)=>
ldc (.bool) w13.drew (a3.add 1) λ(v6:Bool)=>
cl Pg F.lm [.agg #[v5.v,.bool v6]] w13.drew [.agg [.slice,.bool]] λ(r5:Sl)(r6:Bool) w14=>
hld w14 [(a2,.pointer v4)] <|
cl Pg F.gz [.int .i64 1] w14 [.agg [.slice,.bool]] λ(r7:Sl)(r8:Bool) w15=>
hld w15 [(a2,.pointer v4)] <|
nwb w15 [r5.v,.bool r6,r7.v,.bool r8] T.af λb1 w16=>
hld w16 [(a2,.pointer v4)] <|
cl Pg F.ax [.pointer v4,top.v,.slice (some ⟨b1,0,none⟩) 2 2] w16 [.one .slice] λ(s1:Sl) w17=>
ixa x x3 2 λa4=>
ldc (.slice) w17.drew (a4.add 0) λ(v7:Sl)=>
ldc (.bool) w17.drew (a4.add 1) λ(v8:Bool)=>
ixa x x4 2 λa5=>
ldc (.slice) w17.drew (a5.add 0) λ(v9:Sl)=>
ldc (.bool) w17.drew (a5.add 1) λ(v10:Bool)=>
cl Pg F.kD [.agg #[v7.v,.bool v8],.agg #[v9.v,.bool v10]] w17.drew [.agg [.slice,.bool]] λ(r9:Sl)(r10:Bool) w18=>
cl Pg F.bi [.pointer e0,.agg #[down.v,.bool down1],.agg #[r9.v,.bool r10]] w18 [.agg [.slice,.bool]] λ(r11:Sl)(r12:Bool) w19=>
nwv w19 λw20=>
J4 s1 r11 r12 w20) (
J4 top down down1 w13)) λ(top1:Sl)(down2:Sl)(down3:Bool) w21=>
bnd (wi (x4+1)) λn2=>
C3 top1 n2 down2 down3 w21) (
J3 top down down1 w13)) ⟨(some ⟨b,0,none⟩),1,1⟩ 0 r3 r4 w12) λ(top2:Sl)(down4:Sl)(down5:Bool) w22=>
Jn [.slice,.slice,.slice] (λJ5=>
(nwb w22.drew [top2.v] T.bO λb2 w23=>
(apd w23 T.bO 1 24 tops ⟨(some ⟨b2,0,none⟩),1,1⟩ λs2 w24=>
nwb w24 [down4.v,.bool down5] T.af λb3 w25=>
apd w25 T.af 2 32 downs ⟨(some ⟨b3,0,none⟩),1,1⟩ λs3 w26=>
J5 s2 s3 down4 w26)∧
(nwb w23 [down4.v,.bool down5] T.af λb4 w27=>
apd w27 T.bO 1 24 tops ⟨(some ⟨b2,0,none⟩),1,1⟩ λs4 w28=>
apd w28 T.af 2 32 downs ⟨(some ⟨b4,0,none⟩),1,1⟩ λs5 w29=>
J5 s4 s5 down4 w29))∧
(nwb w22.drew [down4.v,.bool down5] T.af λb5 w30=>
nwb w30 [top2.v] T.bO λb6 w31=>
apd w31 T.bO 1 24 tops ⟨(some ⟨b6,0,none⟩),1,1⟩ λs6 w32=>
apd w32 T.af 2 32 downs ⟨(some ⟨b5,0,none⟩),1,1⟩ λs7 w33=>
J5 s6 s7 down4 w33)) λ(tops1:Sl)(downs1:Sl)(down6:Sl) w34=>
nck e0 λa6=>
ldc (.ptr) w34.drew a6 λ(v11:OA)=>
nck v11 λa7=>
ldc (.ptr) w34.drew a7 λ(v12:OA)=>
nck v12 λa8=>
ldc (.ptr) w34.drew a8 λ(v13:OA)=>
nck v13 λa9=>
ldc (.ptr) w34.drew a9 λ(v14:OA)=>
nck v14 λa10=>
ldc (.ptr) w34.drew a10 λ(v15:OA)=>
nwb w34.drew [below.v,down6.v] T.bP λb7 w35=>
hld w35 [(a10,.pointer v15),(a9,.pointer v14),(a8,.pointer v13),(a7,.pointer v12),(a6,.pointer v11)] <|
cl Pg F.eS [.pointer v15,.slice (some ⟨b7,0,none⟩) 2 2] w35 [.one .slice] λ(s8:Sl) w36=>
hld w36 [(a9,.pointer v14),(a8,.pointer v13),(a7,.pointer v12),(a6,.pointer v11)] <|
bnd (wi (x3+1)) λn3=>
C2 tops1 downs1 s8 n3 w36) (
J2 tops downs below w7)) Sl.nil Sl.nil s 0 w6) λ(tops2:Sl)(downs2:Sl)(below1:Sl) w37=>
Jn [.slice] (λJ6=>
Lp [.slice,.int .i64] (λ(sum:Sl)(x5:Int) w38 C4=>
cond (decide ((x5:Int)<(x.n:Int))) (
nck e0 λa11=>
ldc (.ptr) w38.drew a11 λ(v16:OA)=>
nck v16 λa12=>
ldc (.ptr) w38.drew a12 λ(v17:OA)=>
nck v17 λa13=>
ldc (.ptr) w38.drew a13 λ(v18:OA)=>
nck v18 λa14=>
ldc (.ptr) w38.drew a14 λ(v19:OA)=>
nck v19 λa15=>
ldc (.ptr) w38.drew a15 λ(v20:OA)=>
nck v20 λa16=>
ldc (.ptr) w38.drew a16 λ(v21:OA)=>
nck v21 λa17=>
ldc (.ptr) w38.drew a17 λ(v22:OA)=>
ixa y x5 2 λa18=>
ldc (.slice) w38.drew (a18.add 0) λ(v23:Sl)=>
ldc (.bool) w38.drew (a18.add 1) λ(v24:Bool)=>
ixa downs2 x5 2 λa19=>
ldc (.slice) w38.drew (a19.add 0) λ(v25:Sl)=>
ldc (.bool) w38.drew (a19.add 1) λ(v26:Bool)=>
(cl Pg F.bi [.pointer e0,.agg #[below1.v,.bool false],.agg #[v23.v,.bool v24]] w38.drew [.agg [.slice,.bool]] λ(r13:Sl)(r14:Bool) w39=>
hld w39 [(a19.add 0,v25.v),(a19.add 1,.bool v26),(a17,.pointer v22),(a16,.pointer v21),(a15,.pointer v20),(a14,.pointer v19),(a13,.pointer v18),(a12,.pointer v17),(a11,.pointer v16)] <|
(cl Pg F.aE [.pointer v22,.agg #[r13.v,.bool r14],.agg #[v25.v,.bool v26]] w39 [.agg [.slice,.bool],.one (.int .i64)] λ(r15:Sl)(r16:Bool)(_:Int) w40=>
hld w40 [(a16,.pointer v21),(a15,.pointer v20),(a14,.pointer v19),(a13,.pointer v18),(a12,.pointer v17),(a11,.pointer v16)] <|
nwv w40 λw41=>
hld w41 [(a16,.pointer v21),(a15,.pointer v20),(a14,.pointer v19),(a13,.pointer v18),(a12,.pointer v17),(a11,.pointer v16)] <|
nwv w41 λw42=>
nck e0 λa20=>
ldc (.ptr) w42.drew a20 λ(v27:OA)=>
nck v27 λa21=>
ldc (.ptr) w42.drew a21 λ(v28:OA)=>
ixa tops2 x5 1 λa22=>
ldc (.slice) w42.drew a22 λ(v29:Sl)=>
cl Pg F.aC [.pointer v28,v29.v,.agg #[r15.v,.bool r16]] w42.drew [.one .slice] λ(s9:Sl) w43=>
hld w43 [(a20,.pointer v27)] <|
nwb w43 [sum.v,s9.v] T.bO λb8 w44=>
hld w44 [(a20,.pointer v27)] <|
cl Pg F.fF [.slice (some ⟨b8,0,none⟩) 2 2] w44 [.one .slice] λ(s10:Sl) w45=>
hld w45 [(a20,.pointer v27)] <|
bnd (wi (x5+1)) λn4=>
C4 s10 n4 w45)∧
(nwv w39 λw46=>
hld w46 [(a19.add 0,v25.v),(a19.add 1,.bool v26),(a17,.pointer v22),(a16,.pointer v21),(a15,.pointer v20),(a14,.pointer v19),(a13,.pointer v18),(a12,.pointer v17),(a11,.pointer v16)] <|
cl Pg F.aE [.pointer v22,.agg #[r13.v,.bool r14],.agg #[v25.v,.bool v26]] w46 [.agg [.slice,.bool],.one (.int .i64)] λ(r18:Sl)(r19:Bool)(_:Int) w47=>
hld w47 [(a16,.pointer v21),(a15,.pointer v20),(a14,.pointer v19),(a13,.pointer v18),(a12,.pointer v17),(a11,.pointer v16)] <|
nwv w47 λw48=>
nck e0 λa23=>
ldc (.ptr) w48.drew a23 λ(v30:OA)=>
nck v30 λa24=>
ldc (.ptr) w48.drew a24 λ(v31:OA)=>
ixa tops2 x5 1 λa25=>
ldc (.slice) w48.drew a25 λ(v32:Sl)=>
cl Pg F.aC [.pointer v31,v32.v,.agg #[r18.v,.bool r19]] w48.drew [.one .slice] λ(s11:Sl) w49=>
hld w49 [(a23,.pointer v30)] <|
nwb w49 [sum.v,s11.v] T.bO λb9 w50=>
hld w50 [(a23,.pointer v30)] <|
cl Pg F.fF [.slice (some ⟨b9,0,none⟩) 2 2] w50 [.one .slice] λ(s12:Sl) w51=>
hld w51 [(a23,.pointer v30)] <|
bnd (wi (x5+1)) λn5=>
C4 s12 n5 w51))∧
(nwv w38.drew λw52=>
hld w52 [(a19.add 0,v25.v),(a19.add 1,.bool v26),(a18.add 0,v23.v),(a18.add 1,.bool v24),(a17,.pointer v22),(a16,.pointer v21),(a15,.pointer v20),(a14,.pointer v19),(a13,.pointer v18),(a12,.pointer v17),(a11,.pointer v16)] <|
cl Pg F.bi [.pointer e0,.agg #[below1.v,.bool false],.agg #[v23.v,.bool v24]] w52 [.agg [.slice,.bool]] λ(r21:Sl)(r22:Bool) w53=>
hld w53 [(a19.add 0,v25.v),(a19.add 1,.bool v26),(a17,.pointer v22),(a16,.pointer v21),(a15,.pointer v20),(a14,.pointer v19),(a13,.pointer v18),(a12,.pointer v17),(a11,.pointer v16)] <|
cl Pg F.aE [.pointer v22,.agg #[r21.v,.bool r22],.agg #[v25.v,.bool v26]] w53 [.agg [.slice,.bool],.one (.int .i64)] λ(r23:Sl)(r24:Bool)(_:Int) w54=>
hld w54 [(a16,.pointer v21),(a15,.pointer v20),(a14,.pointer v19),(a13,.pointer v18),(a12,.pointer v17),(a11,.pointer v16)] <|
nwv w54 λw55=>
nck e0 λa26=>
ldc (.ptr) w55.drew a26 λ(v33:OA)=>
nck v33 λa27=>
ldc (.ptr) w55.drew a27 λ(v34:OA)=>
ixa tops2 x5 1 λa28=>
ldc (.slice) w55.drew a28 λ(v35:Sl)=>
cl Pg F.aC [.pointer v34,v35.v,.agg #[r23.v,.bool r24]] w55.drew [.one .slice] λ(s13:Sl) w56=>
hld w56 [(a26,.pointer v33)] <|
nwb w56 [sum.v,s13.v] T.bO λb10 w57=>
hld w57 [(a26,.pointer v33)] <|
cl Pg F.fF [.slice (some ⟨b10,0,none⟩) 2 2] w57 [.one .slice] λ(s14:Sl) w58=>
hld w58 [(a26,.pointer v33)] <|
bnd (wi (x5+1)) λn6=>
C4 s14 n6 w58)) (
J6 sum w38)) Sl.nil 0 w37) λ(sum1:Sl) w59=>
nck e0 λa29=>
ldc (.ptr) w59 a29 λ(v36:OA)=>
nck v36 λa30=>
ldc (.ptr) w59 a30 λ(v37:OA)=>
cl Pg F.cI [.pointer v37,sum1.v,.agg #[below1.v,.bool false]] w59 [.one .slice,.one (.int .i64)] λ(s15:Sl)(r26:Int) w60=>
cond ((r26:Int) != 0) (
R (.tuple #[.slice none 0 0,.int .i64 7]) w60) (
R (.tuple #[s15.v,.int .i64 0]) w60))
theorem Ct.bC{x:Sl}{y:Sl}:CG (Sh.bC e0 x y) F.bC [.pointer e0,x.v,y.v] [.one .slice,.one (.int .i64)]:=cod 199 [(15,199),(19,201)] [(199,2),(201,2)] [(2,0,[]),(3,4,[(30,.one (.int .i64))]),(2,2,[]),(3,7,[(34,.one (.int .i64))]),(2,4,[(10,.one .slice),(11,.one .slice),(12,.one .slice)]),(3,17,[(10,.one .slice),(11,.one .slice),(12,.one .slice),(52,.one (.int .i64))]),(2,6,[(14,.one .slice),(199,.one .slice),(200,.one .bool)]),(3,21,[(14,.one .slice),(60,.one (.int .i64)),(199,.one .slice),(200,.one .bool)]),(1,24,[(14,.one .slice),(199,.one .slice),(200,.one .bool)]),(0,27,[(10,.one .slice),(11,.one .slice),(199,.one .slice)]),(2,8,[(17,.one .slice)]),(3,32,[(17,.one .slice),(124,.one (.int .i64))])] f29
def Sh.cX(e0:Option Addr)(a:Sl)(b:Sl):PR:=λR w=>
cl Pg F.ba [a.v] w [.one .slice] λ(s:Sl) w1=>
cl Pg F.ba [b.v] w1 [.one .slice] λ(s1:Sl) w2=>
cond (((s1.n:Int):Int) == 0) (
R (.tuple #[.slice none 0 0,.slice none 0 0,.int .i64 0,.int .i64 2]) w2) (
bnd (wi ((s.n:Int)-(s1.n:Int))) λn=>
bnd (wi (n+1)) λn1=>
bnd (if (n1:Int)>0 then n1 else 0) λn2=>
cl Pg F.cW [s1.v] w2 [.agg [.slice,.bool]] λ(r:Sl)(r1:Bool) w3=>
nwv w3 λw4=>
nwv w4 λw5=>
Jn [.slice,.slice,.int .i64,.slice,.bool] (λJ0=>
Lp [.slice,.slice,.int .i64,.slice,.bool] (λ(q:Sl)(r2:Sl)(left:Int)(c:Sl)(c1:Bool) w6 C0=>
cond (decide (((r2.n:Int):Int)≥(s1.n:Int))) (
cl Pg F.cW [r2.v] w6 [.agg [.slice,.bool]] λ(r3:Sl)(r4:Bool) w7=>
bnd (wi ((r2.n:Int)-(s1.n:Int))) λn3=>
cl Pg F.eQ [.agg #[r3.v,.bool r4],.int .i64 n3] w7 [.one .slice] λ(s2:Sl) w8=>
nck e0 λa1=>
ldc (.ptr) w8.drew a1 λ(v:OA)=>
nck v λa2=>
ldc (.ptr) w8.drew a2 λ(v1:OA)=>
cl Pg F.aC [.pointer v1,q.v,.agg #[c.v,.bool c1]] w8.drew [.one .slice] λ(s3:Sl) w9=>
hld w9 [(a1,.pointer v)] <|
nwb w9 [s3.v,s2.v] T.bO λb1 w10=>
hld w10 [(a1,.pointer v)] <|
cl Pg F.fF [.slice (some ⟨b1,0,none⟩) 2 2] w10 [.one .slice] λ(s4:Sl) w11=>
hld w11 [(a1,.pointer v)] <|
nck e0 λa3=>
ldc (.ptr) w11.drew a3 λ(v2:OA)=>
nck v2 λa4=>
ldc (.ptr) w11.drew a4 λ(v3:OA)=>
nck e0 λa5=>
ldc (.ptr) w11.drew a5 λ(v4:OA)=>
cl Pg F.aC [.pointer v3,r2.v,.agg #[c.v,.bool c1]] w11.drew [.one .slice] λ(s5:Sl) w12=>
hld w12 [(a5,.pointer v4),(a3,.pointer v2)] <|
cl Pg F.ax [.pointer v4,s2.v,s1.v] w12 [.one .slice] λ(s6:Sl) w13=>
hld w13 [(a3,.pointer v2)] <|
cl Pg F.dA [s5.v,s6.v] w13 [.one .slice] λ(s7:Sl) w14=>
hld w14 [(a3,.pointer v2)] <|
bnd (wi (left-1)) λn4=>
C0 s4 s7 n4 c c1 w14) (
J0 q r2 left c c1 w6)) Sl.nil s n2 r r1 w5) λ(q1:Sl)(r5:Sl)(left1:Int)(c2:Sl)(c3:Bool) w15=>
Jn [.slice,.slice] (λJ1=>
Lp [.slice,.slice,.int .i64,.slice,.bool] (λ(q2:Sl)(r6:Sl)(x:Int)(c4:Sl)(c5:Bool) w16 C1=>
cond (decide ((x:Int)<left1)) (
nck e0 λa6=>
ldc (.ptr) w16.drew a6 λ(v5:OA)=>
nck v5 λa7=>
ldc (.ptr) w16.drew a7 λ(v6:OA)=>
nck e0 λa8=>
ldc (.ptr) w16.drew a8 λ(v7:OA)=>
nck v7 λa9=>
ldc (.ptr) w16.drew a9 λ(v8:OA)=>
cl Pg F.aC [.pointer v6,q2.v,.agg #[c4.v,.bool c5]] w16.drew [.one .slice] λ(s8:Sl) w17=>
hld w17 [(a9,.pointer v8),(a8,.pointer v7),(a6,.pointer v5)] <|
cl Pg F.aC [.pointer v8,r6.v,.agg #[c4.v,.bool c5]] w17 [.one .slice] λ(s9:Sl) w18=>
hld w18 [(a8,.pointer v7),(a6,.pointer v5)] <|
bnd (wi (x+1)) λn5=>
C1 s8 s9 n5 c4 c5 w18) (
J1 q2 r6 w16)) q1 r5 0 c2 c3 w15) λ(q3:Sl)(r7:Sl) w19=>
R (.tuple #[q3.v,r7.v,.int .i64 n2,.int .i64 0]) w19)
theorem Ct.cX:CG (Sh.cX e0 a b) F.cX [.pointer e0,a.v,b.v] [.one .slice,.one .slice,.one (.int .i64),.one (.int .i64)]:=cod 103 [(10,103)] [(103,2)] [(2,0,[(6,.one .slice),(7,.one .slice),(11,.one (.int .i64)),(103,.one .slice),(104,.one .bool)]),(3,8,[(6,.one .slice),(7,.one .slice),(11,.one (.int .i64)),(103,.one .slice),(104,.one .bool)]),(2,2,[(6,.one .slice),(7,.one .slice)]),(3,14,[(6,.one .slice),(7,.one .slice),(77,.one (.int .i64)),(103,.one .slice),(104,.one .bool)])] f31
def Sh.bk(e0:Option Addr)(a:Sl)(b:Sl):PR:=λR w=>
cl Pg F.ba [a.v] w [.one .slice] λ(s:Sl) w1=>
cl Pg F.ba [b.v] w1 [.one .slice] λ(s1:Sl) w2=>
cond (((s1.n:Int):Int) == 0) (
R (.tuple #[.slice none 0 0,.int .i64 2]) w2) (
Jn [.slice] (λJ0=>
cond (decide (((s.n:Int):Int)≥(s1.n:Int))) (
bnd (wi ((s.n:Int)-(s1.n:Int))) λn=>
bnd (wi (n+1)) λn1=>
mks w2 n1 n1 T.af 32 [.slice none 0 0,.bool false] λs2 w3=>
J0 s2 w3) (
J0 Sl.nil w2)) λ(q:Sl) w4=>
Jn [.slice] (λJ1=>
Lp [.slice] (λ(r:Sl) w5 C0=>
cond (decide (((r.n:Int):Int)≥(s1.n:Int))) (
nck e0 λa1=>
ldc (.ptr) w5.drew a1 λ(v:OA)=>
nck v λa2=>
ldc (.ptr) w5.drew a2 λ(v1:OA)=>
nck v1 λa3=>
ldc (.ptr) w5.drew a3 λ(v2:OA)=>
nck v2 λa4=>
ldc (.ptr) w5.drew a4 λ(v3:OA)=>
nck v3 λa5=>
ldc (.ptr) w5.drew a5 λ(v4:OA)=>
nck v4 λa6=>
ldc (.ptr) w5.drew a6 λ(v5:OA)=>
nck v5 λa7=>
ldc (.ptr) w5.drew a7 λ(v6:OA)=>
(cl Pg F.cW [r.v] w5.drew [.agg [.slice,.bool]] λ(r1:Sl)(r2:Bool) w6=>
hld w6 [(a7,.pointer v6),(a6,.pointer v5),(a5,.pointer v4),(a4,.pointer v3),(a3,.pointer v2),(a2,.pointer v1),(a1,.pointer v)] <|
(cl Pg F.cW [s1.v] w6 [.agg [.slice,.bool]] λ(r3:Sl)(r4:Bool) w7=>
hld w7 [(a7,.pointer v6),(a6,.pointer v5),(a5,.pointer v4),(a4,.pointer v3),(a3,.pointer v2),(a2,.pointer v1),(a1,.pointer v)] <|
(cl Pg F.aE [.pointer v6,.agg #[r1.v,.bool r2],.agg #[r3.v,.bool r4]] w7 [.agg [.slice,.bool],.one (.int .i64)] λ(r5:Sl)(r6:Bool)(r7:Int) w8=>
hld w8 [(a6,.pointer v5),(a5,.pointer v4),(a4,.pointer v3),(a3,.pointer v2),(a2,.pointer v1),(a1,.pointer v)] <|
nwv w8 λw9=>
hld w9 [(a6,.pointer v5),(a5,.pointer v4),(a4,.pointer v3),(a3,.pointer v2),(a2,.pointer v1),(a1,.pointer v)] <|
nwv w9 λw10=>
cond ((r7:Int) != 0) (
R (.tuple #[.slice none 0 0,.int .i64 r7]) w10) (
bnd (wi ((r.n:Int)-(s1.n:Int))) λn2=>
ixa q n2 2 λa8=>
stc w10 a8 r5.v λw11=>
stc w11 (a8.add 1) (.bool r6) λw12=>
nck e0 λa9=>
ldc (.ptr) w12.drew a9 λ(v7:OA)=>
cl Pg F.eQ [.agg #[r5.v,.bool r6],.int .i64 n2] w12.drew [.one .slice] λ(s3:Sl) w13=>
hld w13 [(a9,.pointer v7)] <|
cl Pg F.ax [.pointer v7,s3.v,s1.v] w13 [.one .slice] λ(s4:Sl) w14=>
cl Pg F.dA [r.v,s4.v] w14 [.one .slice] λ(s5:Sl) w15=>
C0 s5 w15))∧
(nwv w7 λw16=>
hld w16 [(a7,.pointer v6),(a6,.pointer v5),(a5,.pointer v4),(a4,.pointer v3),(a3,.pointer v2),(a2,.pointer v1),(a1,.pointer v)] <|
cl Pg F.aE [.pointer v6,.agg #[r1.v,.bool r2],.agg #[r3.v,.bool r4]] w16 [.agg [.slice,.bool],.one (.int .i64)] λ(r8:Sl)(r9:Bool)(r10:Int) w17=>
hld w17 [(a6,.pointer v5),(a5,.pointer v4),(a4,.pointer v3),(a3,.pointer v2),(a2,.pointer v1),(a1,.pointer v)] <|
nwv w17 λw18=>
cond ((r10:Int) != 0) (
R (.tuple #[.slice none 0 0,.int .i64 r10]) w18) (
bnd (wi ((r.n:Int)-(s1.n:Int))) λn3=>
ixa q n3 2 λa10=>
stc w18 a10 r8.v λw19=>
stc w19 (a10.add 1) (.bool r9) λw20=>
nck e0 λa11=>
ldc (.ptr) w20.drew a11 λ(v8:OA)=>
cl Pg F.eQ [.agg #[r8.v,.bool r9],.int .i64 n3] w20.drew [.one .slice] λ(s6:Sl) w21=>
hld w21 [(a11,.pointer v8)] <|
cl Pg F.ax [.pointer v8,s6.v,s1.v] w21 [.one .slice] λ(s7:Sl) w22=>
cl Pg F.dA [r.v,s7.v] w22 [.one .slice] λ(s8:Sl) w23=>
C0 s8 w23)))∧
(nwv w6 λw24=>
hld w24 [(a7,.pointer v6),(a6,.pointer v5),(a5,.pointer v4),(a4,.pointer v3),(a3,.pointer v2),(a2,.pointer v1),(a1,.pointer v)] <|
cl Pg F.cW [s1.v] w24 [.agg [.slice,.bool]] λ(r11:Sl)(r12:Bool) w25=>
hld w25 [(a7,.pointer v6),(a6,.pointer v5),(a5,.pointer v4),(a4,.pointer v3),(a3,.pointer v2),(a2,.pointer v1),(a1,.pointer v)] <|
cl Pg F.aE [.pointer v6,.agg #[r1.v,.bool r2],.agg #[r11.v,.bool r12]] w25 [.agg [.slice,.bool],.one (.int .i64)] λ(r13:Sl)(r14:Bool)(r15:Int) w26=>
hld w26 [(a6,.pointer v5),(a5,.pointer v4),(a4,.pointer v3),(a3,.pointer v2),(a2,.pointer v1),(a1,.pointer v)] <|
nwv w26 λw27=>
cond ((r15:Int) != 0) (
R (.tuple #[.slice none 0 0,.int .i64 r15]) w27) (
bnd (wi ((r.n:Int)-(s1.n:Int))) λn4=>
ixa q n4 2 λa12=>
stc w27 a12 r13.v λw28=>
stc w28 (a12.add 1) (.bool r14) λw29=>
nck e0 λa13=>
ldc (.ptr) w29.drew a13 λ(v9:OA)=>
cl Pg F.eQ [.agg #[r13.v,.bool r14],.int .i64 n4] w29.drew [.one .slice] λ(s9:Sl) w30=>
hld w30 [(a13,.pointer v9)] <|
cl Pg F.ax [.pointer v9,s9.v,s1.v] w30 [.one .slice] λ(s10:Sl) w31=>
cl Pg F.dA [r.v,s10.v] w31 [.one .slice] λ(s11:Sl) w32=>
C0 s11 w32)))∧
(nwv w5.drew λw33=>
hld w33 [(a7,.pointer v6),(a6,.pointer v5),(a5,.pointer v4),(a4,.pointer v3),(a3,.pointer v2),(a2,.pointer v1),(a1,.pointer v)] <|
cl Pg F.cW [r.v] w33 [.agg [.slice,.bool]] λ(r16:Sl)(r17:Bool) w34=>
hld w34 [(a7,.pointer v6),(a6,.pointer v5),(a5,.pointer v4),(a4,.pointer v3),(a3,.pointer v2),(a2,.pointer v1),(a1,.pointer v)] <|
cl Pg F.cW [s1.v] w34 [.agg [.slice,.bool]] λ(r18:Sl)(r19:Bool) w35=>
hld w35 [(a7,.pointer v6),(a6,.pointer v5),(a5,.pointer v4),(a4,.pointer v3),(a3,.pointer v2),(a2,.pointer v1),(a1,.pointer v)] <|
cl Pg F.aE [.pointer v6,.agg #[r16.v,.bool r17],.agg #[r18.v,.bool r19]] w35 [.agg [.slice,.bool],.one (.int .i64)] λ(r20:Sl)(r21:Bool)(r22:Int) w36=>
hld w36 [(a6,.pointer v5),(a5,.pointer v4),(a4,.pointer v3),(a3,.pointer v2),(a2,.pointer v1),(a1,.pointer v)] <|
nwv w36 λw37=>
cond ((r22:Int) != 0) (
R (.tuple #[.slice none 0 0,.int .i64 r22]) w37) (
bnd (wi ((r.n:Int)-(s1.n:Int))) λn5=>
ixa q n5 2 λa14=>
stc w37 a14 r20.v λw38=>
stc w38 (a14.add 1) (.bool r21) λw39=>
nck e0 λa15=>
ldc (.ptr) w39.drew a15 λ(v10:OA)=>
cl Pg F.eQ [.agg #[r20.v,.bool r21],.int .i64 n5] w39.drew [.one .slice] λ(s12:Sl) w40=>
hld w40 [(a15,.pointer v10)] <|
cl Pg F.ax [.pointer v10,s12.v,s1.v] w40 [.one .slice] λ(s13:Sl) w41=>
cl Pg F.dA [r.v,s13.v] w41 [.one .slice] λ(s14:Sl) w42=>
C0 s14 w42))) (
J1 r w5)) s w4) λ(r23:Sl) w43=>
cond (decide (((r23.n:Int):Int)>0)) (
R (.tuple #[.slice none 0 0,.int .i64 5]) w43) (
cl Pg F.ba [q.v] w43 [.one .slice] λ(s15:Sl) w44=>
R (.tuple #[s15.v,.int .i64 0]) w44))
theorem Ct.bk:CG (Sh.bk e0 a b) F.bk [.pointer e0,a.v,b.v] [.one .slice,.one (.int .i64)]:=cod 95 [(10,95)] [(95,2)] [(1,7,[(9,.one .slice)]),(2,0,[(8,.one .slice)]),(3,8,[(8,.one .slice)])] f37
def Sh.ck(e0:Option Addr)(a:Sl)(b:Sl):PR:=λR w=>
cl Pg F.aK [.pointer e0,a.v] w [.agg [.slice,.bool],.one .slice] λ(r:Sl)(_:Bool)(s:Sl) w1=>
nwv w1 λw2=>
nwv w2 λw3=>
cl Pg F.aK [.pointer e0,b.v] w3 [.agg [.slice,.bool],.one .slice] λ(r2:Sl)(_:Bool)(s1:Sl) w4=>
nwv w4 λw5=>
nwv w5 λw6=>
nck e0 λa1=>
ldc (.ptr) w6.drew a1 λ(v:OA)=>
nck v λa2=>
ldc (.ptr) w6.drew a2 λ(v1:OA)=>
nck v1 λa3=>
ldc (.ptr) w6.drew a3 λ(v2:OA)=>
nck v2 λa4=>
ldc (.ptr) w6.drew a4 λ(v3:OA)=>
nck v3 λa5=>
ldc (.ptr) w6.drew a5 λ(v4:OA)=>
nwb w6.drew [r.v,r2.v] T.bP λb1 w7=>
hld w7 [(a5,.pointer v4),(a4,.pointer v3),(a3,.pointer v2),(a2,.pointer v1),(a1,.pointer v)] <|
cl Pg F.cP [.pointer v4,.slice (some ⟨b1,0,none⟩) 2 2] w7 [.one .slice] λ(s2:Sl) w8=>
hld w8 [(a4,.pointer v3),(a3,.pointer v2),(a2,.pointer v1),(a1,.pointer v)] <|
Jn [.slice] (λJ0=>
Lp [.slice,.slice] (λ(a6:Sl)(b2:Sl) w9 C0=>
cond (decide (((b2.n:Int):Int)>0)) (
cl Pg F.cX [.pointer e0,a6.v,b2.v] w9 [.one .slice,.one .slice,.one (.int .i64),.one (.int .i64)] λ(_:Sl)(s4:Sl)(_:Int)(_:Int) w10=>
cl Pg F.aK [.pointer e0,s4.v] w10 [.agg [.slice,.bool],.one .slice] λ(_:Sl)(_:Bool)(s5:Sl) w11=>
C0 b2 s5 w11) (
J0 a6 w9)) s s1 w8) λ(a7:Sl) w12=>
nck e0 λa8=>
ldc (.ptr) w12 a8 λ(v5:OA)=>
nck v5 λa9=>
ldc (.ptr) w12 a9 λ(v6:OA)=>
cl Pg F.aC [.pointer v6,a7.v,.agg #[s2.v,.bool false]] w12 [.one .slice] λ(s6:Sl) w13=>
R (s6.v) w13
theorem Ct.ck:CG (Sh.ck e0 a b) F.ck [.pointer e0,a.v,b.v] [.one .slice]:=cod 79 [(7,79),(8,81)] [(79,2),(81,2)] [(2,0,[(1,.one .slice)]),(3,4,[(1,.one .slice),(2,.one .slice)])] f39
def Sh.cW(a:Sl):PR:=λR w=>
nwv w λw1=>
bnd (wi ((a.n:Int)-1)) λn=>
ixa a n 2 λa1=>
ldc (.slice) w1 (a1.add 0) λ(v:Sl)=>
ldc (.bool) w1 (a1.add 1) λ(v1:Bool)=>
nwv w1 λw2=>
R (.agg #[v.v,.bool v1]) w2
theorem Ct.cW:CG (Sh.cW a) F.cW [a.v] [.agg [.slice,.bool]]:=cod 9 [(2,9)] [(9,2)] [] f55
def Sh.bi(e0:Option Addr)(a0:Sl)(a1:Bool)(b0:Sl)(b1:Bool):PR:=λR w=>
nwv w λw1=>
nwv w1 λw2=>
nwv w2 λw3=>
nck e0 λa2=>
ldc (.ptr) w3.drew a2 λ(v:OA)=>
nck v λa3=>
ldc (.ptr) w3.drew a3 λ(v1:OA)=>
nck v1 λa4=>
ldc (.ptr) w3.drew a4 λ(v2:OA)=>
nck v2 λa5=>
ldc (.ptr) w3.drew a5 λ(v3:OA)=>
nck v3 λa6=>
ldc (.ptr) w3.drew a6 λ(v4:OA)=>
nck v4 λa7=>
ldc (.ptr) w3.drew a7 λ(v5:OA)=>
nck v5 λa8=>
ldc (.ptr) w3.drew a8 λ(v6:OA)=>
nck v6 λa9=>
ldc (.ptr) w3.drew a9 λ(v7:OA)=>
nck v7 λa10=>
ldc (.ptr) w3.drew a10 λ(v8:OA)=>
nck v8 λa11=>
ldc (.ptr) w3.drew a11 λ(v9:OA)=>
nck v9 λa12=>
ldc (.ptr) w3.drew a12 λ(v10:OA)=>
nck v10 λa13=>
ldc (.ptr) w3.drew a13 λ(v11:OA)=>
nck v11 λa14=>
ldc (.ptr) w3.drew a14 λ(v12:OA)=>
cl Pg F.au [.pointer v12,a0.v,b0.v] w3.drew [.one .slice] λ(s:Sl) w4=>
hld w4 [(a13,.pointer v11),(a12,.pointer v10),(a11,.pointer v9),(a10,.pointer v8),(a9,.pointer v7),(a8,.pointer v6),(a7,.pointer v5),(a6,.pointer v4),(a5,.pointer v3),(a4,.pointer v2),(a3,.pointer v1),(a2,.pointer v)] <|
Jn [.slice,.bool] (λJ0=>
cond (!(a1 == b1)) (
cl Pg F.aB [s.v] w4 [.one .bool] λ(ok:Bool) w5=>
nwv w5 λw6=>
J0 s (!ok) w6) (
nwv w4 λw7=>
J0 s false w7)) λ(x:Sl)(x1:Bool) w8=>
R (.agg #[x.v,.bool x1]) w8
theorem Ct.bi{a0:Sl}{a1:Bool}{b0:Sl}{b1:Bool}:CG (Sh.bi e0 a0 a1 b0 b1) F.bi [.pointer e0,.agg #[a0.v,.bool a1],.agg #[b0.v,.bool b1]] [.agg [.slice,.bool]]:=cod 65 [(4,65),(5,67),(6,69)] [(65,2),(67,2),(69,2)] [(0,2,[(69,.one .slice),(70,.one .bool)])] f69
def Sh.eQ(c0:Sl)(c1:Bool)(k:Int):PR:=λR w=>
nwv w λw1=>
bnd (wi (k+1)) λn=>
mks w1 n n T.af 32 [.slice none 0 0,.bool false] λs w2=>
ixa s k 2 λa=>
stc w2 a c0.v λw3=>
stc w3 (a.add 1) (.bool c1) λw4=>
R (s.v) w4
theorem Ct.eQ{c0:Sl}{c1:Bool}{k:Int}:CG (Sh.eQ c0 c1 k) F.eQ [.agg #[c0.v,.bool c1],.int .i64 k] [.one .slice]:=cod 14 [(2,14)] [(14,2)] [] f78
end
section
set_option maxRecDepth 100000
open Go.Proofs.Tryz
variable {a a0 b:Sl} {a1:Bool} {n:Int}
def Sh.cw(a0:Sl)(a1:Bool)(n:Int):PR:=λR w=>
nwv w λw1=>
nwv w1 λw2=>
cl Pg F.em [a0.v,.int .i64 n] w2.drew [.one .slice] λ(s:Sl) w3=>
nwv w3 λw4=>
R (.agg #[s.v,.bool a1]) w4
theorem Ct.cw:CG (Sh.cw a0 a1 n) F.cw [.agg #[a0.v,.bool a1],.int .i64 n] [.agg [.slice,.bool]]:=cod 12 [(2,12),(4,14)] [(12,2),(14,2)] [] f13
def Sh.bA(a0:Sl)(a1:Bool)(b0:Sl)(b1:Bool):PR:=λR w=>
nwv w λw1=>
nwv w1 λw2=>
Jn [.bool] (λJ0=>
cond (a1 == b1) (
cl Pg F.dG [a0.v,b0.v] w2 [.one .bool] λ(ok:Bool) w3=>
J0 ok w3) (
J0 false w2)) λ(x:Bool) w4=>
R (.bool x) w4
theorem Ct.bA{b0:Sl}{b1:Bool}:CG (Sh.bA a0 a1 b0 b1) F.bA [.agg #[a0.v,.bool a1],.agg #[b0.v,.bool b1]] [.one .bool]:=cod 17 [(2,17),(3,19)] [(17,2),(19,2)] [(0,1,[(4,.one .bool)])] f22
def Sh.cj(a:Sl)(k:Int)(n:Int):PR:=λR w=>
Jn [.slice] (λJ0=>
Lp [.slice,.int .i64] (λ(out:Sl)(i:Int) w1 C0=>
Jn [.bool] (λJ1=>
cond (decide ((i:Int)<(a.n:Int))) (
J1 (decide ((i:Int)<k)) w1) (
J1 false w1)) λ(x:Bool) w2=>
cond x (
ixa a i 2 λa1=>
ldc (.slice) w2 (a1.add 0) λ(v:Sl)=>
ldc (.bool) w2 (a1.add 1) λ(v1:Bool)=>
cl Pg F.cw [.agg #[v.v,.bool v1],.int .i64 n] w2 [.agg [.slice,.bool]] λ(r:Sl)(r1:Bool) w3=>
nwb w3 [r.v,.bool r1] T.af λb w4=>
apd w4 T.af 2 32 out ⟨(some ⟨b,0,none⟩),1,1⟩ λs w5=>
bnd (wi (i+1)) λn1=>
C0 s n1 w5) (
J0 out w2)) Sl.nil 0 w) λ(out1:Sl) w6=>
R (out1.v) w6
theorem Ct.cj{k:Int}:CG (Sh.cj a k n) F.cj [a.v,.int .i64 k,.int .i64 n] [.one .slice]:=cod 30 [] [] [(2,0,[(7,.one .slice)]),(3,3,[(7,.one .slice),(8,.one (.int .i64))]),(0,3,[(17,.one .bool)])] f26
def Sh.cF(a:Sl)(b:Sl):PR:=λR w=>
cond (((a.n:Int):Int) != (b.n:Int)) (
R (.bool false) w) (
Jn [] (λJ0=>
Lp [.int .i64] (λ(i:Int) w1 C0=>
cond (decide ((i:Int)<(a.n:Int))) (
ixa a i 2 λa1=>
ldc (.slice) w1.drew (a1.add 0) λ(v:Sl)=>
ldc (.bool) w1.drew (a1.add 1) λ(v1:Bool)=>
ixa b i 2 λa2=>
ldc (.slice) w1.drew (a2.add 0) λ(v2:Sl)=>
ldc (.bool) w1.drew (a2.add 1) λ(v3:Bool)=>
cl Pg F.bA [.agg #[v.v,.bool v1],.agg #[v2.v,.bool v3]] w1.drew [.one .bool] λ(ok:Bool) w2=>
cond (!ok) (
R (.bool false) w2) (
bnd (wi (i+1)) λn=>
C0 n w2)) (
J0 w1)) 0 w) fun  w3=>
R (.bool true) w3)
theorem Ct.cF:CG (Sh.cF a b) F.cF [a.v,b.v] [.one .bool]:=cod 27 [] [] [(2,0,[]),(3,4,[(5,.one (.int .i64))])] f41
def Sh.em(a:Sl)(n:Int):PR:=λR w=>
bnd (if (n:Int)<(a.n:Int) then n else (a.n:Int)) λn1=>
slc a 0 n1 1 λs=>
R (s.v) w
theorem Ct.em:CG (Sh.em a n) F.em [a.v,.int .i64 n] [.one .slice]:=cod 11 [] [] [] f46
def Sh.dG(a:Sl)(b:Sl):PR:=λR w=>
cond (((a.n:Int):Int) != (b.n:Int)) (
R (.bool false) w) (
Jn [] (λJ0=>
Lp [.int .i64] (λ(i:Int) w1 C0=>
cond (decide ((i:Int)<(a.n:Int))) (
ixa a i 1 λa1=>
ldc (.int .u64) w1.drew a1 λ(v:Int)=>
ixa b i 1 λa2=>
ldc (.int .u64) w1.drew a2 λ(v1:Int)=>
cond ((v:Int) != v1) (
R (.bool false) w1.drew) (
bnd (wi (i+1)) λn=>
C0 n w1.drew)) (
J0 w1)) 0 w) fun  w2=>
R (.bool true) w2)
theorem Ct.dG:CG (Sh.dG a b) F.dG [a.v,b.v] [.one .bool]:=cod 26 [] [] [(2,0,[]),(3,4,[(5,.one (.int .i64))])] f62
end
section
set_option maxRecDepth 100000
open Go.Proofs.Tryz
variable {a:Sl}
def Sh.bE(t:HL I11)(u:HL I11)(a:Sl)(b:Sl)(c:Sl):PR:=λR w=>
nwv w λw1=>
nwv w1 λw2=>
cl Pg F.bR [a.v,.int .i64 5,.int .i64 2] w2 [.one .slice,.one .slice] λ(_:Sl)(s1:Sl) w3=>
cl Pg F.bR [b.v,.int .i64 5,.int .i64 2] w3 [.one .slice,.one .slice] λ(_:Sl)(s3:Sl) w4=>
cl Pg F.bR [c.v,.int .i64 4,.int .i64 1] w4 [.one .slice,.one .slice] λ(_:Sl)(s5:Sl) w5=>
cl Pg F.cD [s1.v,s5.v] w5 [.one .slice] λ(s6:Sl) w6=>
cl Pg F.cD [s3.v,s5.v] w6 [.one .slice] λ(s7:Sl) w7=>
cl Pg F.jx [.agg (aM I11 t).toArray] w7.drew [.one .ptr] λ(p:OA) w8=>
cl Pg F.jx [.agg (aM I11 u).toArray] w8 [.one .ptr] λ(p1:OA) w9=>
Jn [.bool] (λJ0=>
cond (Option.isNone p) (
J0 true w9) (
J0 (Option.isNone p1) w9)) λ(x:Bool) w10=>
cond x (
R (.bool false) w10) (
cl Pg F.ct [s6.v] w10 [.one .slice] λ(s8:Sl) w11=>
cl Pg F.ct [s7.v] w11 [.one .slice] λ(s9:Sl) w12=>
cl Pg F.ck [.pointer p,s8.v,s9.v] w12 [.one .slice] λ(s10:Sl) w13=>
cond (((s10.n:Int):Int) == 0) (
Jn [.bool] (λJ1=>
cond (((s6.n:Int):Int) == 0) (
cond (((s7.n:Int):Int) == 0) (
cl Pg F.bu [] w13 [.one .bool] λ(ok:Bool) w14=>
J1 ok w14) (
J1 false w13)) (
J1 false w13)) λ(x1:Bool) w15=>
R (.bool x1) w15) (
cl Pg F.bk [.pointer p,s8.v,s10.v] w13 [.one .slice,.one (.int .i64)] λ(_:Sl)(r:Int) w16=>
cl Pg F.bk [.pointer p,s9.v,s10.v] w16 [.one .slice,.one (.int .i64)] λ(_:Sl)(r1:Int) w17=>
Jn [.int .i64] (λJ2=>
cond (decide (((s5.n:Int):Int)>0)) (
cl Pg F.ct [s5.v] w17 [.one .slice] λ(s13:Sl) w18=>
cl Pg F.bk [.pointer p,s10.v,s13.v] w18 [.one .slice,.one (.int .i64)] λ(_:Sl)(r2:Int) w19=>
J2 r2 w19) (
J2 0 w17)) λ(k:Int) w20=>
Jn [.bool] (λJ3=>
cond ((r:Int) == 0) (
cond ((r1:Int) == 0) (
cond ((k:Int) == 0) (
cl Pg F.ck [.pointer p1,s9.v,s8.v] w20 [.one .slice] λ(s15:Sl) w21=>
cl Pg F.cF [s10.v,s15.v] w21 [.one .bool] λ(ok1:Bool) w22=>
cond ok1 (
bnd (wi ((s10.n:Int)-1)) λn=>
ixa s10 n 2 λa1=>
ldc (.bool) w22 (a1.add 1) λ(v:Bool)=>
cond (!v) (
cl Pg F.bu [] w22 [.one .bool] λ(ok2:Bool) w23=>
J3 ok2 w23) (
J3 false w22)) (
J3 false w22)) (
J3 false w20)) (
J3 false w20)) (
J3 false w20)) λ(x2:Bool) w24=>
R (.bool x2) w24))
theorem Ct.bE{t:HL I11}{u:HL I11}{b:Sl}{c:Sl}:CG (Sh.bE t u a b c) F.bE [.agg (aM I11 t).toArray,.agg (aM I11 u).toArray,a.v,b.v,c.v] [.one .bool]:=cod 136 [(5,136),(6,147)] [(136,11),(147,11)] [(0,6,[(57,.one .bool)]),(0,11,[(10,.one .bool)]),(1,16,[(26,.one (.int .i64))]),(0,17,[(10,.one .bool)])] f9
def Sh.bR(a:Sl)(n:Int)(k:Int):PR:=λR w=>
cl Pg F.cj [a.v,.int .i64 n,.int .i64 k] w [.one .slice] λ(s:Sl) w1=>
cl Pg F.cS [s.v] w1 [.one .slice] λ(s1:Sl) w2=>
R (.tuple #[s.v,s1.v]) w2
theorem Ct.bR{n:Int}{k:Int}:CG (Sh.bR a n k) F.bR [a.v,.int .i64 n,.int .i64 k] [.one .slice,.one .slice]:=cod 15 [] [] [] f10
def Sh.bu:PR:=λR w=>
cl Pg F.jx [.agg #[.int .i64 0,.int .i64 0,.int .i64 0,.int .i64 0,.int .i64 0,.int .i64 0,.int .i64 0,.int .i64 0,.int .i64 0,.int .i64 0,.int .i64 0]] w [.one .ptr] λ(p:OA) w1=>
cond (Option.isNone p) (
R (.bool false) w1) (
cl Pg F.gz [.int .i64 4] w1 [.agg [.slice,.bool]] λ(r:Sl)(r1:Bool) w2=>
cl Pg F.gz [.int .i64 (-2)] w2 [.agg [.slice,.bool]] λ(r2:Sl)(r3:Bool) w3=>
nwb w3 [r.v,.bool r1,r2.v,.bool r3] T.af λb w4=>
cl Pg F.aK [.pointer p,.slice (some ⟨b,0,none⟩) 2 2] w4 [.agg [.slice,.bool],.one .slice] λ(r4:Sl)(r5:Bool)(s:Sl) w5=>
nwv w5 λw6=>
nwv w6 λw7=>
cl Pg F.gz [.int .i64 0] w7 [.agg [.slice,.bool]] λ(r6:Sl)(r7:Bool) w8=>
cl Pg F.gz [.int .i64 2] w8 [.agg [.slice,.bool]] λ(r8:Sl)(r9:Bool) w9=>
nwb w9 [r6.v,.bool r7,r8.v,.bool r9] T.af λb1 w10=>
cl Pg F.gz [.int .i64 0] w10 [.agg [.slice,.bool]] λ(r10:Sl)(r11:Bool) w11=>
cl Pg F.gz [.int .i64 1] w11 [.agg [.slice,.bool]] λ(r12:Sl)(r13:Bool) w12=>
nwb w12 [r10.v,.bool r11,r12.v,.bool r13] T.af λb2 w13=>
cl Pg F.bC [.pointer p,.slice (some ⟨b1,0,none⟩) 2 2,.slice (some ⟨b2,0,none⟩) 2 2] w13 [.one .slice,.one (.int .i64)] λ(_:Sl)(r14:Int) w14=>
Jn [.bool] (λJ0=>
cl Pg F.gz [.int .i64 (-2)] w14.drew [.agg [.slice,.bool]] λ(r15:Sl)(r16:Bool) w15=>
cl Pg F.bA [.agg #[r4.v,.bool r5],.agg #[r15.v,.bool r16]] w15 [.one .bool] λ(ok:Bool) w16=>
cond ok (
cond (((s.n:Int):Int) == 2) (
J0 ((r14:Int) == 7) w16) (
J0 false w16)) (
J0 false w16)) λ(x:Bool) w17=>
R (.bool x) w17)
theorem Ct.bu:CG Sh.bu F.bu [] [.one .bool]:=cod 41 [(2,41)] [(41,2)] [(0,6,[(0,.one .bool)])] f25
end
section
set_option maxRecDepth 100000
open Go.Proofs.Tryz
variable {a b:Sl}
def Sh.cV(a:Sl):PR:=λR w=>
bnd (wi (2*(a.n:Int))) λn=>
mks w 0 n T.an 8 [.int .u64 0] λs w1=>
Jn [.slice] (λJ0=>
Lp [.slice,.int .i64] (λ(out:Sl)(i:Int) w2 C0=>
cond (decide ((i:Int)<(a.n:Int))) (
ixa a i 1 λa1=>
ldc (.int .u64) w2.drew a1 λ(v:Int)=>
dV v 4294967296 λn1=>
ixa a i 1 λa2=>
ldc (.int .u64) w2.drew a2 λ(v1:Int)=>
d9 .u64 v1 4294967296 λn2=>
nwb w2.drew [.int .u64 n1,.int .u64 n2] T.an λb w3=>
hld w3 [(a2,.int .u64 v1),(a1,.int .u64 v)] <|
apd w3 T.an 1 8 out ⟨(some ⟨b,0,none⟩),2,2⟩ λs1 w4=>
hld w4 [(a2,.int .u64 v1),(a1,.int .u64 v)] <|
bnd (wi (i+1)) λn3=>
C0 s1 n3 w4) (
J0 out w2)) s 0 w1) λ(out1:Sl) w5=>
cl Pg F.bh [out1.v] w5 [.one .slice] λ(s2:Sl) w6=>
R (s2.v) w6
theorem Ct.cV:CG (Sh.cV a) F.cV [a.v] [.one .slice]:=cod 30 [] [] [(2,0,[(3,.one .slice)]),(3,3,[(3,.one .slice),(4,.one (.int .i64))])] f45
def Sh.ci(a:Sl):PR:=λR w=>
R (.bool (((a.n:Int):Int) == 0)) w
theorem Ct.ci:CG (Sh.ci a) F.ci [a.v] [.one .bool]:=cod 6 [] [] [] f48
def Sh.dE(a:Sl)(b:Sl):PR:=λR w=>
cond (((a.n:Int):Int) != (b.n:Int)) (
cond (decide (((a.n:Int):Int)<(b.n:Int))) (
R (.int .i64 (-1)) w) (
R (.int .i64 1) w)) (
bnd (wi ((a.n:Int)-1)) λn=>
Jn [] (λJ0=>
Lp [.int .i64] (λ(i:Int) w1 C0=>
cond (decide ((i:Int)≥0)) (
ixa a i 1 λa1=>
ldc (.int .u64) w1.drew a1 λ(v:Int)=>
ixa b i 1 λa2=>
ldc (.int .u64) w1.drew a2 λ(v1:Int)=>
cond (decide ((v:Int)<v1)) (
R (.int .i64 (-1)) w1.drew) (
ixa a i 1 λa3=>
ldc (.int .u64) w1.drew.drew a3 λ(v2:Int)=>
ixa b i 1 λa4=>
ldc (.int .u64) w1.drew.drew a4 λ(v3:Int)=>
cond (decide ((v2:Int)>v3)) (
R (.int .i64 1) w1.drew.drew) (
bnd (wi (i-1)) λn1=>
C0 n1 w1.drew.drew))) (
J0 w1)) n w) fun  w2=>
R (.int .i64 0) w2)
theorem Ct.dE:CG (Sh.dE a b) F.dE [a.v,b.v] [.one (.int .i64)]:=cod 41 [] [] [(2,0,[]),(3,6,[(5,.one (.int .i64))])] f51
def Sh.cE(a:Sl)(b:Sl):PR:=λR w=>
mks w 0 (a.n:Int) T.an 8 [.int .u64 0] λs w1=>
Jn [.slice] (λJ0=>
Lp [.slice,.int .u64,.int .i64] (λ(out:Sl)(c:Int)(i:Int) w2 C0=>
cond (decide ((i:Int)<(a.n:Int))) (
Jn [.int .u64] (λJ1=>
cond (decide ((i:Int)<(b.n:Int))) (
ixa b i 1 λa1=>
ldc (.int .u64) w2 a1 λ(v:Int)=>
bnd (wu (c+v)) λn=>
J1 n w2) (
J1 c w2)) λ(s1:Int) w3=>
ixa a i 1 λa2=>
ldc (.int .u64) w3 a2 λ(v1:Int)=>
Jn [.slice,.int .u64] (λJ2=>
cond (decide ((v1:Int)≥s1)) (
ixa a i 1 λa3=>
ldc (.int .u64) w3 a3 λ(v2:Int)=>
bnd (wu (v2-s1)) λn1=>
nwb w3 [.int .u64 n1] T.an λb1 w4=>
apd w4 T.an 1 8 out ⟨(some ⟨b1,0,none⟩),1,1⟩ λs2 w5=>
J2 s2 0 w5) (
ixa a i 1 λa4=>
ldc (.int .u64) w3 a4 λ(v3:Int)=>
bnd (wu (v3+4294967296)) λn2=>
bnd (wu (n2-s1)) λn3=>
nwb w3 [.int .u64 n3] T.an λb2 w6=>
apd w6 T.an 1 8 out ⟨(some ⟨b2,0,none⟩),1,1⟩ λs3 w7=>
J2 s3 1 w7)) λ(out1:Sl)(c1:Int) w8=>
bnd (wi (i+1)) λn4=>
C0 out1 c1 n4 w8) (
J0 out w2)) s 0 0 w1) λ(out2:Sl) w9=>
cl Pg F.bh [out2.v] w9 [.one .slice] λ(s4:Sl) w10=>
R (s4.v) w10
theorem Ct.cE:CG (Sh.cE a b) F.cE [a.v,b.v] [.one .slice]:=cod 56 [] [] [(2,0,[(5,.one .slice)]),(3,4,[(5,.one .slice),(6,.one (.int .u64)),(7,.one (.int .i64))]),(1,8,[(8,.one (.int .u64))]),(1,10,[(5,.one .slice),(6,.one (.int .u64))])] f52
def Sh.ek(a:Sl):PR:=λR w=>
Jn [.slice] (λJ0=>
Lp [.slice,.int .i64] (λ(out:Sl)(i:Int) w1 C0=>
cond (decide ((i:Int)<(a.n:Int))) (
ixa a i 1 λa1=>
ldc (.int .u64) w1 a1 λ(v:Int)=>
bnd (wi (i+1)) λn=>
Jn [.int .u64] (λJ1=>
cond (decide ((n:Int)<(a.n:Int))) (
bnd (wi (i+1)) λn1=>
ixa a n1 1 λa2=>
ldc (.int .u64) w1 a2 λ(v1:Int)=>
bnd (wu (v1*4294967296)) λn2=>
bnd (wu (v+n2)) λn3=>
J1 n3 w1) (
J1 v w1)) λ(y:Int) w2=>
nwb w2 [.int .u64 y] T.an λb w3=>
apd w3 T.an 1 8 out ⟨(some ⟨b,0,none⟩),1,1⟩ λs w4=>
bnd (wi (i+2)) λn4=>
C0 s n4 w4) (
J0 out w1)) Sl.nil 0 w) λ(out1:Sl) w5=>
Jn [.slice] (λJ2=>
Lp [.slice] (λ(out2:Sl) w6 C1=>
Jn [.bool] (λJ3=>
cond (decide (((out2.n:Int):Int)>0)) (
bnd (wi ((out2.n:Int)-1)) λn5=>
ixa out2 n5 1 λa3=>
ldc (.int .u64) w6 a3 λ(v2:Int)=>
J3 ((v2:Int) == 0) w6) (
J3 false w6)) λ(x:Bool) w7=>
cond x (
bnd (wi ((out2.n:Int)-1)) λn6=>
slc out2 0 n6 1 λs1=>
C1 s1 w7) (
J2 out2 w7)) out1 w5) λ(out3:Sl) w8=>
R (out3.v) w8
theorem Ct.ek:CG (Sh.ek a) F.ek [a.v] [.one .slice]:=cod 51 [] [] [(2,0,[(3,.one .slice)]),(3,3,[(3,.one .slice),(4,.one (.int .i64))]),(1,7,[(5,.one (.int .u64))]),(2,2,[(3,.one .slice)]),(3,9,[(3,.one .slice)]),(0,9,[(44,.one .bool)])] f60
def Sh.dD(a:Sl)(b:Sl):PR:=λR w=>
bnd (wi ((a.n:Int)+(b.n:Int))) λn=>
mks w n n T.an 8 [.int .u64 0] λs w1=>
Jn [] (λJ0=>
Lp [.int .i64] (λ(i:Int) w2 C0=>
cond (decide ((i:Int)<(a.n:Int))) (
Jn [.int .u64] (λJ1=>
Lp [.int .u64,.int .i64] (λ(c:Int)(j:Int) w3 C1=>
cond (decide ((j:Int)<(b.n:Int))) (
bnd (wi (i+j)) λn1=>
ixa s n1 1 λa1=>
ldc (.int .u64) w3.drew a1 λ(v:Int)=>
ixa a i 1 λa2=>
ldc (.int .u64) w3.drew a2 λ(v1:Int)=>
ixa b j 1 λa3=>
ldc (.int .u64) w3.drew a3 λ(v2:Int)=>
bnd (wu (v1*v2)) λn2=>
bnd (wu (v+n2)) λn3=>
bnd (wu (n3+c)) λn4=>
bnd (wi (i+j)) λn5=>
dV n4 4294967296 λn6=>
ixa s n5 1 λa4=>
stc w3.drew a4 (.int .u64 n6) λw4=>
d9 .u64 n4 4294967296 λn7=>
bnd (wi (j+1)) λn8=>
C1 n7 n8 w4) (
J1 c w3)) 0 0 w2) λ(c1:Int) w5=>
bnd (wi (i+(b.n:Int))) λn9=>
ixa s n9 1 λa5=>
stc w5 a5 (.int .u64 c1) λw6=>
bnd (wi (i+1)) λn10=>
C0 n10 w6) (
J0 w2)) 0 w1) fun  w7=>
cl Pg F.bh [s.v] w7 [.one .slice] λ(s1:Sl) w8=>
R (s1.v) w8
theorem Ct.dD:CG (Sh.dD a b) F.dD [a.v,b.v] [.one .slice]:=cod 64 [] [] [(2,0,[]),(3,3,[(6,.one (.int .i64))]),(2,2,[(7,.one (.int .u64))]),(3,7,[(7,.one (.int .u64)),(8,.one (.int .i64))])] f84
def Sh.bh(a:Sl):PR:=λR w=>
Jn [.int .i64] (λJ0=>
Lp [.int .i64] (λ(k:Int) w1 C0=>
Jn [.bool] (λJ1=>
cond (decide ((k:Int)>0)) (
bnd (wi (k-1)) λn=>
ixa a n 1 λa1=>
ldc (.int .u64) w1 a1 λ(v:Int)=>
J1 ((v:Int) == 0) w1) (
J1 false w1)) λ(x:Bool) w2=>
cond x (
bnd (wi (k-1)) λn1=>
C0 n1 w2) (
J0 k w2)) (a.n:Int) w) λ(k1:Int) w3=>
slc a 0 k1 1 λs=>
R (s.v) w3
theorem Ct.bh:CG (Sh.bh a) F.bh [a.v] [.one .slice]:=cod 21 [] [] [(2,0,[(3,.one (.int .i64))]),(3,2,[(3,.one (.int .i64))]),(0,2,[(15,.one .bool)])] f85
def Sh.dF(a:Sl)(b:Sl):PR:=λR w=>
bnd (if ((b.n:Int):Int)>(a.n:Int) then (b.n:Int) else (a.n:Int)) λn=>
bnd (wi (n+1)) λn1=>
mks w 0 n1 T.an 8 [.int .u64 0] λs w1=>
Jn [.slice] (λJ0=>
Lp [.slice,.int .u64,.int .i64] (λ(out:Sl)(c:Int)(i:Int) w2 C0=>
Jn [.bool] (λJ1=>
cond (decide ((i:Int)<(a.n:Int))) (
J1 true w2) (
cond (decide ((i:Int)<(b.n:Int))) (
J1 true w2) (
J1 (decide ((c:Int)>0)) w2))) λ(x:Bool) w3=>
cond x (
Jn [.int .u64] (λJ2=>
cond (decide ((i:Int)<(a.n:Int))) (
ixa a i 1 λa1=>
ldc (.int .u64) w3 a1 λ(v:Int)=>
bnd (wu (c+v)) λn2=>
J2 n2 w3) (
J2 c w3)) λ(c1:Int) w4=>
Jn [.int .u64] (λJ3=>
cond (decide ((i:Int)<(b.n:Int))) (
ixa b i 1 λa2=>
ldc (.int .u64) w4 a2 λ(v1:Int)=>
bnd (wu (c1+v1)) λn3=>
J3 n3 w4) (
J3 c1 w4)) λ(c2:Int) w5=>
dV c2 4294967296 λn4=>
nwb w5 [.int .u64 n4] T.an λb1 w6=>
apd w6 T.an 1 8 out ⟨(some ⟨b1,0,none⟩),1,1⟩ λs1 w7=>
d9 .u64 c2 4294967296 λn5=>
bnd (wi (i+1)) λn6=>
C0 s1 n5 n6 w7) (
J0 out w3)) s 0 0 w1) λ(out1:Sl) w8=>
cl Pg F.bh [out1.v] w8 [.one .slice] λ(s2:Sl) w9=>
R (s2.v) w9
theorem Ct.dF:CG (Sh.dF a b) F.dF [a.v,b.v] [.one .slice]:=cod 60 [] [] [(2,0,[(5,.one .slice)]),(3,4,[(5,.one .slice),(6,.one (.int .u64)),(7,.one (.int .i64))]),(0,4,[(28,.one .bool)]),(1,7,[(6,.one (.int .u64))]),(1,9,[(6,.one (.int .u64))])] f92
end
section
set_option maxRecDepth 100000
open Go.Proofs.Tryz
variable {a0 b0:Sl} {a1 b1:Bool}
def Sh.cU(a0:Sl)(a1:Bool):PR:=λR w=>
nwv w λw1=>
nwv w1 λw2=>
cl Pg F.cV [a0.v] w2.drew [.one .slice] λ(s:Sl) w3=>
cl Pg F.aU [s.v,.bool a1] w3 [.agg [.slice,.bool]] λ(r:Sl)(r1:Bool) w4=>
nwv w4 λw5=>
R (.agg #[r.v,.bool r1]) w5
theorem Ct.cU:CG (Sh.cU a0 a1) F.cU [.agg #[a0.v,.bool a1]] [.agg [.slice,.bool]]:=cod 9 [(1,9),(2,11)] [(9,2),(11,2)] [] f12
def Sh.ej(a0:Sl)(a1:Bool):PR:=λR w=>
nwv w λw1=>
nwv w1 λw2=>
cl Pg F.ek [a0.v] w2.drew [.one .slice] λ(s:Sl) w3=>
nwv w3 λw4=>
R (.agg #[s.v,.bool a1]) w4
theorem Ct.ej:CG (Sh.ej a0 a1) F.ej [.agg #[a0.v,.bool a1]] [.agg [.slice,.bool]]:=cod 9 [(1,9),(2,11)] [(9,2),(11,2)] [] f23
def Sh.dB(a0:Sl)(a1:Bool)(b0:Sl)(b1:Bool):PR:=λR w=>
nwv w λw1=>
nwv w1 λw2=>
nwv w2 λw3=>
cl Pg F.dD [a0.v,b0.v] w3.drew [.one .slice] λ(s:Sl) w4=>
cl Pg F.aU [s.v,.bool (!(a1 == b1))] w4 [.agg [.slice,.bool]] λ(r:Sl)(r1:Bool) w5=>
nwv w5 λw6=>
R (.agg #[r.v,.bool r1]) w6
theorem Ct.dB:CG (Sh.dB a0 a1 b0 b1) F.dB [.agg #[a0.v,.bool a1],.agg #[b0.v,.bool b1]] [.agg [.slice,.bool]]:=cod 16 [(2,16),(3,18),(4,20)] [(16,2),(18,2),(20,2)] [] f42
def Sh.aU(n:Sl)(neg:Bool):PR:=λR w=>
nwv w λw1=>
Jn [.slice,.bool] (λJ0=>
cond neg (
cl Pg F.ci [n.v] w1 [.one .bool] λ(ok:Bool) w2=>
nwv w2 λw3=>
J0 n (!ok) w3) (
nwv w1 λw4=>
J0 n false w4)) λ(x:Sl)(x1:Bool) w5=>
R (.agg #[x.v,.bool x1]) w5
theorem Ct.aU{n:Sl}{neg:Bool}:CG (Sh.aU n neg) F.aU [n.v,.bool neg] [.agg [.slice,.bool]]:=cod 13 [(4,13)] [(13,2)] [(0,1,[(13,.one .slice),(14,.one .bool)])] f44
def Sh.dC(a0:Sl)(a1:Bool)(b0:Sl)(b1:Bool):PR:=λR w=>
nwv w λw1=>
nwv w1 λw2=>
nwv w2 λw3=>
cond (a1 == b1) (
cl Pg F.dF [a0.v,b0.v] w3.drew [.one .slice] λ(s:Sl) w4=>
cl Pg F.aU [s.v,.bool a1] w4 [.agg [.slice,.bool]] λ(r:Sl)(r1:Bool) w5=>
nwv w5 λw6=>
R (.agg #[r.v,.bool r1]) w6) (
cl Pg F.dE [a0.v,b0.v] w3 [.one (.int .i64)] λ(r2:Int) w7=>
cond (decide ((r2:Int)≥0)) (
cl Pg F.cE [a0.v,b0.v] w7.drew [.one .slice] λ(s1:Sl) w8=>
cl Pg F.aU [s1.v,.bool a1] w8 [.agg [.slice,.bool]] λ(r3:Sl)(r4:Bool) w9=>
nwv w9 λw10=>
R (.agg #[r3.v,.bool r4]) w10) (
cl Pg F.cE [b0.v,a0.v] w7.drew [.one .slice] λ(s2:Sl) w11=>
cl Pg F.aU [s2.v,.bool b1] w11 [.agg [.slice,.bool]] λ(r5:Sl)(r6:Bool) w12=>
nwv w12 λw13=>
R (.agg #[r5.v,.bool r6]) w13))
theorem Ct.dC:CG (Sh.dC a0 a1 b0 b1) F.dC [.agg #[a0.v,.bool a1],.agg #[b0.v,.bool b1]] [.agg [.slice,.bool]]:=cod 40 [(2,40),(3,42),(4,44)] [(40,2),(42,2),(44,2)] [] f64
def Sh.cT(a0:Sl)(a1:Bool):PR:=λR w=>
nwv w λw1=>
cl Pg F.ci [a0.v] w1 [.one .bool] λ(ok:Bool) w2=>
R (.bool ok) w2
theorem Ct.cT:CG (Sh.cT a0 a1) F.cT [.agg #[a0.v,.bool a1]] [.one .bool]:=cod 6 [(1,6)] [(6,2)] [] f83
end
section
set_option maxRecDepth 100000
open Go.Proofs.Tryz
variable {a:Sl}
def Sh.ct(a:Sl):PR:=λR w=>
Jn [.slice] (λJ0=>
Lp [.slice,.int .i64] (λ(out:Sl)(i:Int) w1 C0=>
cond (decide ((i:Int)<(a.n:Int))) (
ixa a i 2 λa1=>
ldc (.slice) w1 (a1.add 0) λ(v:Sl)=>
ldc (.bool) w1 (a1.add 1) λ(v1:Bool)=>
cl Pg F.ej [.agg #[v.v,.bool v1]] w1 [.agg [.slice,.bool]] λ(r:Sl)(r1:Bool) w2=>
nwb w2 [r.v,.bool r1] T.af λb w3=>
apd w3 T.af 2 32 out ⟨(some ⟨b,0,none⟩),1,1⟩ λs w4=>
bnd (wi (i+1)) λn=>
C0 s n w4) (
J0 out w1)) Sl.nil 0 w) λ(out1:Sl) w5=>
R (out1.v) w5
theorem Ct.ct:CG (Sh.ct a) F.ct [a.v] [.one .slice]:=cod 20 [] [] [(2,0,[(3,.one .slice)]),(3,3,[(3,.one .slice),(4,.one (.int .i64))])] f14
def Sh.cS(a:Sl):PR:=λR w=>
Jn [.slice] (λJ0=>
Lp [.slice,.int .i64] (λ(out:Sl)(i:Int) w1 C0=>
cond (decide ((i:Int)<(a.n:Int))) (
ixa a i 2 λa1=>
ldc (.slice) w1 (a1.add 0) λ(v:Sl)=>
ldc (.bool) w1 (a1.add 1) λ(v1:Bool)=>
cl Pg F.cU [.agg #[v.v,.bool v1]] w1 [.agg [.slice,.bool]] λ(r:Sl)(r1:Bool) w2=>
nwb w2 [r.v,.bool r1] T.cd λb w3=>
apd w3 T.cd 2 32 out ⟨(some ⟨b,0,none⟩),1,1⟩ λs w4=>
bnd (wi (i+1)) λn=>
C0 s n w4) (
J0 out w1)) Sl.nil 0 w) λ(out1:Sl) w5=>
cl Pg F.bZ [out1.v] w5 [.one .slice] λ(s1:Sl) w6=>
R (s1.v) w6
theorem Ct.cS:CG (Sh.cS a) F.cS [a.v] [.one .slice]:=cod 21 [] [] [(2,0,[(3,.one .slice)]),(3,3,[(3,.one .slice),(4,.one (.int .i64))])] f27
def Sh.cD(a:Sl)(b:Sl):PR:=λR w=>
Jn [.bool] (λJ0=>
cond (((a.n:Int):Int) == 0) (
J0 true w) (
J0 (((b.n:Int):Int) == 0) w)) λ(x:Bool) w1=>
cond x (
R (.slice none 0 0) w1) (
bnd (wi ((a.n:Int)+(b.n:Int))) λn=>
bnd (wi (n-1)) λn1=>
mks w1 n1 n1 T.cd 32 [.slice none 0 0,.bool false] λs w2=>
Jn [] (λJ1=>
Lp [.int .i64] (λ(i:Int) w3 C0=>
cond (decide ((i:Int)<(a.n:Int))) (
Jn [] (λJ2=>
Lp [.int .i64] (λ(j:Int) w4 C1=>
cond (decide ((j:Int)<(b.n:Int))) (
bnd (wi (i+j)) λn2=>
bnd (wi (i+j)) λn3=>
ixa s n3 2 λa1=>
ldc (.slice) w4.drew (a1.add 0) λ(v:Sl)=>
ldc (.bool) w4.drew (a1.add 1) λ(v1:Bool)=>
ixa a i 2 λa2=>
ldc (.slice) w4.drew (a2.add 0) λ(v2:Sl)=>
ldc (.bool) w4.drew (a2.add 1) λ(v3:Bool)=>
ixa b j 2 λa3=>
ldc (.slice) w4.drew (a3.add 0) λ(v4:Sl)=>
ldc (.bool) w4.drew (a3.add 1) λ(v5:Bool)=>
cl Pg F.dB [.agg #[v2.v,.bool v3],.agg #[v4.v,.bool v5]] w4.drew [.agg [.slice,.bool]] λ(r:Sl)(r1:Bool) w5=>
hld w5 [(a1.add 0,v.v),(a1.add 1,.bool v1)] <|
cl Pg F.dC [.agg #[v.v,.bool v1],.agg #[r.v,.bool r1]] w5 [.agg [.slice,.bool]] λ(r2:Sl)(r3:Bool) w6=>
ixa s n2 2 λa4=>
stc w6 a4 r2.v λw7=>
stc w7 (a4.add 1) (.bool r3) λw8=>
bnd (wi (j+1)) λn4=>
C1 n4 w8) (
J2 w4)) 0 w3) fun  w9=>
bnd (wi (i+1)) λn5=>
C0 n5 w9) (
J1 w3)) 0 w2) fun  w10=>
cl Pg F.bZ [s.v] w10 [.one .slice] λ(s1:Sl) w11=>
R (s1.v) w11)
theorem Ct.cD{b:Sl}:CG (Sh.cD a b) F.cD [a.v,b.v] [.one .slice]:=cod 58 [] [] [(0,1,[(15,.one .bool)]),(2,0,[]),(3,5,[(6,.one (.int .i64))]),(2,2,[]),(3,8,[(7,.one (.int .i64))])] f35
def Sh.bZ(a:Sl):PR:=λR w=>
Jn [.int .i64] (λJ0=>
Lp [.int .i64] (λ(k:Int) w1 C0=>
Jn [.bool] (λJ1=>
cond (decide ((k:Int)>0)) (
bnd (wi (k-1)) λn=>
ixa a n 2 λa1=>
ldc (.slice) w1 (a1.add 0) λ(v:Sl)=>
ldc (.bool) w1 (a1.add 1) λ(v1:Bool)=>
cl Pg F.cT [.agg #[v.v,.bool v1]] w1 [.one .bool] λ(ok:Bool) w2=>
J1 ok w2) (
J1 false w1)) λ(x:Bool) w3=>
cond x (
bnd (wi (k-1)) λn1=>
C0 n1 w3) (
J0 k w3)) (a.n:Int) w) λ(k1:Int) w4=>
slc a 0 k1 2 λs=>
R (s.v) w4
theorem Ct.bZ:CG (Sh.bZ a) F.bZ [a.v] [.one .slice]:=cod 21 [] [] [(2,0,[(3,.one (.int .i64))]),(3,2,[(3,.one (.int .i64))]),(0,2,[(15,.one .bool)])] f43
end
end Go.Proofs.YtpbimnlggalnfaaGreatDoor.Zg
