/- A part of the proofs of this seat's laws. -/
import Derived.Test.YtpbimnlggalnfaaGreatDoorGC
set_option linter.unusedVariables false
set_option linter.unusedSimpArgs false
set_option linter.unnecessarySimpa false
namespace Go.Proofs.YtpbimnlggalnfaaGreatDoor.Zg
open Go.RowKit
section
set_option maxRecDepth 100000
open Go.Proofs.Tryz
variable {w:TW} {X:Nat→Prop} {K:KT [.one .slice]} {e0:Option Addr} {a b:Sl}
def Sh.gB(t:HL I11)(R:Value→TW→Prop)(w:TW):Prop:=
nwv w λw1=>
cl Pg F.jY [.agg (aX I11 t).toArray] w1 [.one .ptr] λ(p:Option Addr) w2=>
nwb w2 [.pointer p] T.uC λb w3=>
R (.pointer (some ⟨b,0,none⟩)) w3
theorem Ct.gB{t:HL I11}{K:KT [.one .ptr]}(h:Sh.gB t (Rt X [.one .ptr] K w) w.here):Ct Pg F.gB [.agg (aX I11 t).toArray] w X [.one .ptr] K:=
 cod (Sh.gB t) 7 [(1,7)] [(7,11)] [] f15 h
def Sh.aM(e0:Option Addr)(a:Sl)(R:Value→TW→Prop)(w:TW):Prop:=
nwv w λw1=>
cl Pg F.fI [a.v] w1 [.one .slice] λ(s:Sl) w2=>
cond (((s.n:Int):Int) == 0) (
nwv w2 λw3=>
R (.tuple #[.agg #[.slice none 0 0,.bool false],.slice none 0 0]) w3) (
nwb w2 [s.v] T.bV λb w4=>
cl Pg F.aF [.pointer e0,.slice (some ⟨b,0,none⟩) 1 1] w4 [.one .slice] λ(s1:Sl) w5=>
cl Pg F.gn [s.v] w5 [.agg [.slice,.bool]] λ(_:Sl)(r1:Bool) w6=>
nwv w6 λw7=>
nwv w7 λw8=>
nck e0 λa1=>
ldc (.ptr) w8.drew a1 λ(v:Option Addr)=>
nck v λa2=>
ldc (.ptr) w8.drew a2 λ(v1:Option Addr)=>
cl Pg F.cP [.pointer v1,s.v,.agg #[s1.v,.bool r1]] w8.drew [.one .slice,.one (.int .i64)] λ(s2:Sl)(_:Int) w9=>
hld w9 [(a1,.pointer v)] <|
nwv w9 λw10=>
R (.tuple #[.agg #[s1.v,.bool r1],s2.v]) w10)
theorem Ct.aM{K:KT [.agg [.slice,.bool],.one .slice]}(h:Sh.aM e0 a (Rt X [.agg [.slice,.bool],.one .slice] K w) w.here):Ct Pg F.aM [.pointer e0,a.v] w X [.agg [.slice,.bool],.one .slice] K:=
 cod (Sh.aM e0 a) 38 [(4,38),(6,40)] [(38,2),(40,2)] [] f18 h
def Sh.aF(e0:Option Addr)(l:Sl)(R:Value→TW→Prop)(w:TW):Prop:=
Jn [.slice] (λJ0=>
Lp [.slice,.int .i64] (λ(g:Sl)(x:Int) w1 C0=>
cond (decide ((x:Int)<(l.n:Int))) (
ixa l x 1 λa=>
ldc (.slice) w1 a λ(v:Sl)=>
Jn [.slice] (λJ1=>
Lp [.slice,.int .i64] (λ(g1:Sl)(x1:Int) w2 C1=>
cond (decide ((x1:Int)<(v.n:Int))) (
ixa v x1 2 λa1=>
ldc (.slice) w2 (a1.add 0) λ(v1:Sl)=>
ldc (.bool) w2 (a1.add 1) λ(_:Bool)=>
nwv w2 λw3=>
nwv w3 λw4=>
nck e0 λa2=>
ldc (.ptr) w4.drew a2 λ(v3:Option Addr)=>
nck v3 λa3=>
ldc (.ptr) w4.drew a3 λ(v4:Option Addr)=>
nck v4 λa4=>
ldc (.ptr) w4.drew a4 λ(v5:Option Addr)=>
nck v5 λa5=>
ldc (.ptr) w4.drew a5 λ(v6:Option Addr)=>
nck v6 λa6=>
ldc (.ptr) w4.drew a6 λ(v7:Option Addr)=>
nwb w4.drew [g1.v,v1.v] T.cL λb w5=>
hld w5 [(a6,.pointer v7),(a5,.pointer v6),(a4,.pointer v5),(a3,.pointer v4),(a2,.pointer v3)] <|
cl Pg F.ep [.pointer v7,.slice (some ⟨b,0,none⟩) 2 2] w5 [.one .slice] λ(s:Sl) w6=>
hld w6 [(a5,.pointer v6),(a4,.pointer v5),(a3,.pointer v4),(a2,.pointer v3)] <|
bnd (wi (x1+1)) λn=>
C1 s n w6) (
J1 g1 w2)) g 0 w1) λ(g2:Sl) w7=>
bnd (wi (x+1)) λn1=>
C0 g2 n1 w7) (
J0 g w1)) Sl.nil 0 w) λ(g3:Sl) w8=>
R (g3.v) w8
theorem Ct.aF{l:Sl}(h:Sh.aF e0 l (Rt X [.one .slice] K w) w.here):Ct Pg F.aF [.pointer e0,l.v] w X [.one .slice] K:=
 cod (Sh.aF e0 l) 46 [(9,46)] [(46,2)] [(2,0,[(5,.one .slice)]),(3,3,[(5,.one .slice),(12,.one (.int .i64))]),(2,2,[(5,.one .slice)]),(3,6,[(5,.one .slice),(18,.one (.int .i64))])] f21 h
def Sh.bd(e0:Option Addr)(x:Sl)(y:Sl)(R:Value→TW→Prop)(w:TW):Prop:=
cond (((x.n:Int):Int) != (y.n:Int)) (
R (.tuple #[.slice none 0 0,.int .i64 1]) w) (
Jn [] (λJ0=>
Lp [.int .i64] (λ(x1:Int) w1 C0=>
cond (decide ((x1:Int)<(x.n:Int))) (
Jn [] (λJ1=>
Lp [.int .i64] (λ(x2:Int) w2 C1=>
cond (decide ((x2:Int)<x1)) (
ixa x x1 2 λa=>
ldc (.slice) w2.drew (a.add 0) λ(v:Sl)=>
ldc (.bool) w2.drew (a.add 1) λ(v1:Bool)=>
ixa x x2 2 λa1=>
ldc (.slice) w2.drew (a1.add 0) λ(v2:Sl)=>
ldc (.bool) w2.drew (a1.add 1) λ(v3:Bool)=>
cl Pg F.jM [.agg #[v.v,.bool v1],.agg #[v2.v,.bool v3]] w2.drew [.one (.int .i64)] λ(r:Int) w3=>
cond ((r:Int) == 0) (
R (.tuple #[.slice none 0 0,.int .i64 6]) w3) (
bnd (wi (x2+1)) λn=>
C1 n w3)) (
J1 w2)) 0 w1) fun  w4=>
bnd (wi (x1+1)) λn1=>
C0 n1 w4) (
J0 w1)) 0 w) fun  w5=>
cl Pg F.dk [.int .u64 1] w5 [.one .slice] λ(s:Sl) w6=>
Jn [.slice,.slice,.slice] (λJ2=>
Lp [.slice,.slice,.slice,.int .i64] (λ(tops:Sl)(downs:Sl)(below:Sl)(x3:Int) w7 C2=>
cond (decide ((x3:Int)<(x.n:Int))) (
cl Pg F.fJ [.int .i64 1] w7 [.agg [.slice,.bool]] λ(r1:Sl)(r2:Bool) w8=>
nwb w8 [r1.v,.bool r2] T.ah λb w9=>
cl Pg F.fJ [.int .i64 1] w9 [.agg [.slice,.bool]] λ(r3:Sl)(r4:Bool) w10=>
nwv w10 λw11=>
nwv w11 λw12=>
Jn [.slice,.slice,.bool] (λJ3=>
Lp [.slice,.int .i64,.slice,.bool] (λ(top:Sl)(x4:Int)(down:Sl)(down1:Bool) w13 C3=>
cond (decide ((x4:Int)<(x.n:Int))) (
Jn [.slice,.slice,.bool] (λJ4=>
cond ((x4:Int) != x3) (
nck e0 λa2=>
ldc (.ptr) w13.drew a2 λ(v4:Option Addr)=>
ixa x x4 2 λa3=>
ldc (.slice) w13.drew (a3.add 0) λ(v5:Sl)=>
ldc (.bool) w13.drew (a3.add 1) λ(v6:Bool)=>
cl Pg F.jL [.agg #[v5.v,.bool v6]] w13.drew [.agg [.slice,.bool]] λ(r5:Sl)(r6:Bool) w14=>
hld w14 [(a2,.pointer v4)] <|
cl Pg F.fJ [.int .i64 1] w14 [.agg [.slice,.bool]] λ(r7:Sl)(r8:Bool) w15=>
hld w15 [(a2,.pointer v4)] <|
nwb w15 [r5.v,.bool r6,r7.v,.bool r8] T.ah λb1 w16=>
hld w16 [(a2,.pointer v4)] <|
cl Pg F.cM [.pointer v4,top.v,.slice (some ⟨b1,0,none⟩) 2 2] w16 [.one .slice] λ(s1:Sl) w17=>
ixa x x3 2 λa4=>
ldc (.slice) w17.drew (a4.add 0) λ(v7:Sl)=>
ldc (.bool) w17.drew (a4.add 1) λ(v8:Bool)=>
ixa x x4 2 λa5=>
ldc (.slice) w17.drew (a5.add 0) λ(v9:Sl)=>
ldc (.bool) w17.drew (a5.add 1) λ(v10:Bool)=>
cl Pg F.jt [.agg #[v7.v,.bool v8],.agg #[v9.v,.bool v10]] w17.drew [.agg [.slice,.bool]] λ(r9:Sl)(r10:Bool) w18=>
cl Pg F.bq [.pointer e0,.agg #[down.v,.bool down1],.agg #[r9.v,.bool r10]] w18 [.agg [.slice,.bool]] λ(r11:Sl)(r12:Bool) w19=>
nwv w19 λw20=>
J4 s1 r11 r12 w20) (
J4 top down down1 w13)) λ(top1:Sl)(down2:Sl)(down3:Bool) w21=>
bnd (wi (x4+1)) λn2=>
C3 top1 n2 down2 down3 w21) (
J3 top down down1 w13)) ⟨(some ⟨b,0,none⟩),1,1⟩ 0 r3 r4 w12) λ(top2:Sl)(down4:Sl)(down5:Bool) w22=>
Jn [.slice,.slice,.slice] (λJ5=>
(nwb w22.drew [top2.v] T.bV λb2 w23=>
(apd w23 T.bV 1 24 tops ⟨(some ⟨b2,0,none⟩),1,1⟩ λs2 w24=>
nwb w24 [down4.v,.bool down5] T.ah λb3 w25=>
apd w25 T.ah 2 32 downs ⟨(some ⟨b3,0,none⟩),1,1⟩ λs3 w26=>
J5 s2 s3 down4 w26)∧
(nwb w23 [down4.v,.bool down5] T.ah λb4 w27=>
apd w27 T.bV 1 24 tops ⟨(some ⟨b2,0,none⟩),1,1⟩ λs4 w28=>
apd w28 T.ah 2 32 downs ⟨(some ⟨b4,0,none⟩),1,1⟩ λs5 w29=>
J5 s4 s5 down4 w29))∧
(nwb w22.drew [down4.v,.bool down5] T.ah λb5 w30=>
nwb w30 [top2.v] T.bV λb6 w31=>
apd w31 T.bV 1 24 tops ⟨(some ⟨b6,0,none⟩),1,1⟩ λs6 w32=>
apd w32 T.ah 2 32 downs ⟨(some ⟨b5,0,none⟩),1,1⟩ λs7 w33=>
J5 s6 s7 down4 w33)) λ(tops1:Sl)(downs1:Sl)(down6:Sl) w34=>
nck e0 λa6=>
ldc (.ptr) w34.drew a6 λ(v11:Option Addr)=>
nck v11 λa7=>
ldc (.ptr) w34.drew a7 λ(v12:Option Addr)=>
nck v12 λa8=>
ldc (.ptr) w34.drew a8 λ(v13:Option Addr)=>
nck v13 λa9=>
ldc (.ptr) w34.drew a9 λ(v14:Option Addr)=>
nck v14 λa10=>
ldc (.ptr) w34.drew a10 λ(v15:Option Addr)=>
nwb w34.drew [below.v,down6.v] T.cL λb7 w35=>
hld w35 [(a10,.pointer v15),(a9,.pointer v14),(a8,.pointer v13),(a7,.pointer v12),(a6,.pointer v11)] <|
cl Pg F.eX [.pointer v15,.slice (some ⟨b7,0,none⟩) 2 2] w35 [.one .slice] λ(s8:Sl) w36=>
hld w36 [(a9,.pointer v14),(a8,.pointer v13),(a7,.pointer v12),(a6,.pointer v11)] <|
bnd (wi (x3+1)) λn3=>
C2 tops1 downs1 s8 n3 w36) (
J2 tops downs below w7)) Sl.nil Sl.nil s 0 w6) λ(tops2:Sl)(downs2:Sl)(below1:Sl) w37=>
Jn [.slice] (λJ6=>
Lp [.slice,.int .i64] (λ(sum:Sl)(x5:Int) w38 C4=>
cond (decide ((x5:Int)<(x.n:Int))) (
nck e0 λa11=>
ldc (.ptr) w38.drew a11 λ(v16:Option Addr)=>
nck v16 λa12=>
ldc (.ptr) w38.drew a12 λ(v17:Option Addr)=>
nck v17 λa13=>
ldc (.ptr) w38.drew a13 λ(v18:Option Addr)=>
nck v18 λa14=>
ldc (.ptr) w38.drew a14 λ(v19:Option Addr)=>
nck v19 λa15=>
ldc (.ptr) w38.drew a15 λ(v20:Option Addr)=>
nck v20 λa16=>
ldc (.ptr) w38.drew a16 λ(v21:Option Addr)=>
nck v21 λa17=>
ldc (.ptr) w38.drew a17 λ(v22:Option Addr)=>
ixa y x5 2 λa18=>
ldc (.slice) w38.drew (a18.add 0) λ(v23:Sl)=>
ldc (.bool) w38.drew (a18.add 1) λ(v24:Bool)=>
ixa downs2 x5 2 λa19=>
ldc (.slice) w38.drew (a19.add 0) λ(v25:Sl)=>
ldc (.bool) w38.drew (a19.add 1) λ(v26:Bool)=>
(cl Pg F.bq [.pointer e0,.agg #[below1.v,.bool false],.agg #[v23.v,.bool v24]] w38.drew [.agg [.slice,.bool]] λ(r13:Sl)(r14:Bool) w39=>
hld w39 [(a19.add 0,v25.v),(a19.add 1,.bool v26),(a17,.pointer v22),(a16,.pointer v21),(a15,.pointer v20),(a14,.pointer v19),(a13,.pointer v18),(a12,.pointer v17),(a11,.pointer v16)] <|
(cl Pg F.bA [.pointer v22,.agg #[r13.v,.bool r14],.agg #[v25.v,.bool v26]] w39 [.agg [.slice,.bool],.one (.int .i64)] λ(r15:Sl)(r16:Bool)(_:Int) w40=>
hld w40 [(a16,.pointer v21),(a15,.pointer v20),(a14,.pointer v19),(a13,.pointer v18),(a12,.pointer v17),(a11,.pointer v16)] <|
nwv w40 λw41=>
hld w41 [(a16,.pointer v21),(a15,.pointer v20),(a14,.pointer v19),(a13,.pointer v18),(a12,.pointer v17),(a11,.pointer v16)] <|
nwv w41 λw42=>
nck e0 λa20=>
ldc (.ptr) w42.drew a20 λ(v27:Option Addr)=>
nck v27 λa21=>
ldc (.ptr) w42.drew a21 λ(v28:Option Addr)=>
ixa tops2 x5 1 λa22=>
ldc (.slice) w42.drew a22 λ(v29:Sl)=>
cl Pg F.aC [.pointer v28,v29.v,.agg #[r15.v,.bool r16]] w42.drew [.one .slice] λ(s9:Sl) w43=>
hld w43 [(a20,.pointer v27)] <|
nwb w43 [sum.v,s9.v] T.bV λb8 w44=>
hld w44 [(a20,.pointer v27)] <|
cl Pg F.eT [.slice (some ⟨b8,0,none⟩) 2 2] w44 [.one .slice] λ(s10:Sl) w45=>
hld w45 [(a20,.pointer v27)] <|
bnd (wi (x5+1)) λn4=>
C4 s10 n4 w45)∧
(nwv w39 λw46=>
hld w46 [(a19.add 0,v25.v),(a19.add 1,.bool v26),(a17,.pointer v22),(a16,.pointer v21),(a15,.pointer v20),(a14,.pointer v19),(a13,.pointer v18),(a12,.pointer v17),(a11,.pointer v16)] <|
cl Pg F.bA [.pointer v22,.agg #[r13.v,.bool r14],.agg #[v25.v,.bool v26]] w46 [.agg [.slice,.bool],.one (.int .i64)] λ(r18:Sl)(r19:Bool)(_:Int) w47=>
hld w47 [(a16,.pointer v21),(a15,.pointer v20),(a14,.pointer v19),(a13,.pointer v18),(a12,.pointer v17),(a11,.pointer v16)] <|
nwv w47 λw48=>
nck e0 λa23=>
ldc (.ptr) w48.drew a23 λ(v30:Option Addr)=>
nck v30 λa24=>
ldc (.ptr) w48.drew a24 λ(v31:Option Addr)=>
ixa tops2 x5 1 λa25=>
ldc (.slice) w48.drew a25 λ(v32:Sl)=>
cl Pg F.aC [.pointer v31,v32.v,.agg #[r18.v,.bool r19]] w48.drew [.one .slice] λ(s11:Sl) w49=>
hld w49 [(a23,.pointer v30)] <|
nwb w49 [sum.v,s11.v] T.bV λb9 w50=>
hld w50 [(a23,.pointer v30)] <|
cl Pg F.eT [.slice (some ⟨b9,0,none⟩) 2 2] w50 [.one .slice] λ(s12:Sl) w51=>
hld w51 [(a23,.pointer v30)] <|
bnd (wi (x5+1)) λn5=>
C4 s12 n5 w51))∧
(nwv w38.drew λw52=>
hld w52 [(a19.add 0,v25.v),(a19.add 1,.bool v26),(a18.add 0,v23.v),(a18.add 1,.bool v24),(a17,.pointer v22),(a16,.pointer v21),(a15,.pointer v20),(a14,.pointer v19),(a13,.pointer v18),(a12,.pointer v17),(a11,.pointer v16)] <|
cl Pg F.bq [.pointer e0,.agg #[below1.v,.bool false],.agg #[v23.v,.bool v24]] w52 [.agg [.slice,.bool]] λ(r21:Sl)(r22:Bool) w53=>
hld w53 [(a19.add 0,v25.v),(a19.add 1,.bool v26),(a17,.pointer v22),(a16,.pointer v21),(a15,.pointer v20),(a14,.pointer v19),(a13,.pointer v18),(a12,.pointer v17),(a11,.pointer v16)] <|
cl Pg F.bA [.pointer v22,.agg #[r21.v,.bool r22],.agg #[v25.v,.bool v26]] w53 [.agg [.slice,.bool],.one (.int .i64)] λ(r23:Sl)(r24:Bool)(_:Int) w54=>
hld w54 [(a16,.pointer v21),(a15,.pointer v20),(a14,.pointer v19),(a13,.pointer v18),(a12,.pointer v17),(a11,.pointer v16)] <|
nwv w54 λw55=>
nck e0 λa26=>
ldc (.ptr) w55.drew a26 λ(v33:Option Addr)=>
nck v33 λa27=>
ldc (.ptr) w55.drew a27 λ(v34:Option Addr)=>
ixa tops2 x5 1 λa28=>
ldc (.slice) w55.drew a28 λ(v35:Sl)=>
cl Pg F.aC [.pointer v34,v35.v,.agg #[r23.v,.bool r24]] w55.drew [.one .slice] λ(s13:Sl) w56=>
hld w56 [(a26,.pointer v33)] <|
nwb w56 [sum.v,s13.v] T.bV λb10 w57=>
hld w57 [(a26,.pointer v33)] <|
cl Pg F.eT [.slice (some ⟨b10,0,none⟩) 2 2] w57 [.one .slice] λ(s14:Sl) w58=>
hld w58 [(a26,.pointer v33)] <|
bnd (wi (x5+1)) λn6=>
C4 s14 n6 w58)) (
J6 sum w38)) Sl.nil 0 w37) λ(sum1:Sl) w59=>
nck e0 λa29=>
ldc (.ptr) w59 a29 λ(v36:Option Addr)=>
nck v36 λa30=>
ldc (.ptr) w59 a30 λ(v37:Option Addr)=>
cl Pg F.cP [.pointer v37,sum1.v,.agg #[below1.v,.bool false]] w59 [.one .slice,.one (.int .i64)] λ(s15:Sl)(r26:Int) w60=>
cond ((r26:Int) != 0) (
R (.tuple #[.slice none 0 0,.int .i64 7]) w60) (
R (.tuple #[s15.v,.int .i64 0]) w60))
theorem Ct.bd{x:Sl}{y:Sl}{K:KT [.one .slice,.one (.int .i64)]}(h:Sh.bd e0 x y (Rt X [.one .slice,.one (.int .i64)] K w) w.here):Ct Pg F.bd [.pointer e0,x.v,y.v] w X [.one .slice,.one (.int .i64)] K:=
 cod (Sh.bd e0 x y) 199 [(15,199),(19,201)] [(199,2),(201,2)] [(2,0,[]),(3,4,[(30,.one (.int .i64))]),(2,2,[]),(3,7,[(34,.one (.int .i64))]),(2,4,[(10,.one .slice),(11,.one .slice),(12,.one .slice)]),(3,17,[(10,.one .slice),(11,.one .slice),(12,.one .slice),(52,.one (.int .i64))]),(2,6,[(14,.one .slice),(199,.one .slice),(200,.one .bool)]),(3,21,[(14,.one .slice),(60,.one (.int .i64)),(199,.one .slice),(200,.one .bool)]),(1,24,[(14,.one .slice),(199,.one .slice),(200,.one .bool)]),(0,27,[(10,.one .slice),(11,.one .slice),(199,.one .slice)]),(2,8,[(17,.one .slice)]),(3,32,[(17,.one .slice),(124,.one (.int .i64))])] f29 h
def Sh.cX(e0:Option Addr)(a:Sl)(b:Sl)(R:Value→TW→Prop)(w:TW):Prop:=
cl Pg F.fI [a.v] w [.one .slice] λ(s:Sl) w1=>
cl Pg F.fI [b.v] w1 [.one .slice] λ(s1:Sl) w2=>
cond (((s1.n:Int):Int) == 0) (
R (.tuple #[.slice none 0 0,.slice none 0 0,.int .i64 0,.int .i64 2]) w2) (
bnd (wi ((s.n:Int)-(s1.n:Int))) λn=>
bnd (wi (n+1)) λn1=>
bnd (if (n1:Int)>0 then n1 else 0) λn2=>
cl Pg F.gn [s1.v] w2 [.agg [.slice,.bool]] λ(r:Sl)(r1:Bool) w3=>
nwv w3 λw4=>
nwv w4 λw5=>
Jn [.slice,.slice,.int .i64,.slice,.bool] (λJ0=>
Lp [.slice,.slice,.int .i64,.slice,.bool] (λ(q:Sl)(r2:Sl)(left:Int)(c:Sl)(c1:Bool) w6 C0=>
cond (decide (((r2.n:Int):Int)≥(s1.n:Int))) (
cl Pg F.gn [r2.v] w6 [.agg [.slice,.bool]] λ(r3:Sl)(r4:Bool) w7=>
bnd (wi ((r2.n:Int)-(s1.n:Int))) λn3=>
cl Pg F.gW [.agg #[r3.v,.bool r4],.int .i64 n3] w7 [.one .slice] λ(s2:Sl) w8=>
nck e0 λa1=>
ldc (.ptr) w8.drew a1 λ(v:Option Addr)=>
nck v λa2=>
ldc (.ptr) w8.drew a2 λ(v1:Option Addr)=>
cl Pg F.aC [.pointer v1,q.v,.agg #[c.v,.bool c1]] w8.drew [.one .slice] λ(s3:Sl) w9=>
hld w9 [(a1,.pointer v)] <|
nwb w9 [s3.v,s2.v] T.bV λb1 w10=>
hld w10 [(a1,.pointer v)] <|
cl Pg F.eT [.slice (some ⟨b1,0,none⟩) 2 2] w10 [.one .slice] λ(s4:Sl) w11=>
hld w11 [(a1,.pointer v)] <|
nck e0 λa3=>
ldc (.ptr) w11.drew a3 λ(v2:Option Addr)=>
nck v2 λa4=>
ldc (.ptr) w11.drew a4 λ(v3:Option Addr)=>
nck e0 λa5=>
ldc (.ptr) w11.drew a5 λ(v4:Option Addr)=>
cl Pg F.aC [.pointer v3,r2.v,.agg #[c.v,.bool c1]] w11.drew [.one .slice] λ(s5:Sl) w12=>
hld w12 [(a5,.pointer v4),(a3,.pointer v2)] <|
cl Pg F.cM [.pointer v4,s2.v,s1.v] w12 [.one .slice] λ(s6:Sl) w13=>
hld w13 [(a3,.pointer v2)] <|
cl Pg F.gh [s5.v,s6.v] w13 [.one .slice] λ(s7:Sl) w14=>
hld w14 [(a3,.pointer v2)] <|
bnd (wi (left-1)) λn4=>
C0 s4 s7 n4 c c1 w14) (
J0 q r2 left c c1 w6)) Sl.nil s n2 r r1 w5) λ(q1:Sl)(r5:Sl)(left1:Int)(c2:Sl)(c3:Bool) w15=>
Jn [.slice,.slice] (λJ1=>
Lp [.slice,.slice,.int .i64,.slice,.bool] (λ(q2:Sl)(r6:Sl)(x:Int)(c4:Sl)(c5:Bool) w16 C1=>
cond (decide ((x:Int)<left1)) (
nck e0 λa6=>
ldc (.ptr) w16.drew a6 λ(v5:Option Addr)=>
nck v5 λa7=>
ldc (.ptr) w16.drew a7 λ(v6:Option Addr)=>
nck e0 λa8=>
ldc (.ptr) w16.drew a8 λ(v7:Option Addr)=>
nck v7 λa9=>
ldc (.ptr) w16.drew a9 λ(v8:Option Addr)=>
cl Pg F.aC [.pointer v6,q2.v,.agg #[c4.v,.bool c5]] w16.drew [.one .slice] λ(s8:Sl) w17=>
hld w17 [(a9,.pointer v8),(a8,.pointer v7),(a6,.pointer v5)] <|
cl Pg F.aC [.pointer v8,r6.v,.agg #[c4.v,.bool c5]] w17 [.one .slice] λ(s9:Sl) w18=>
hld w18 [(a8,.pointer v7),(a6,.pointer v5)] <|
bnd (wi (x+1)) λn5=>
C1 s8 s9 n5 c4 c5 w18) (
J1 q2 r6 w16)) q1 r5 0 c2 c3 w15) λ(q3:Sl)(r7:Sl) w19=>
R (.tuple #[q3.v,r7.v,.int .i64 n2,.int .i64 0]) w19)
theorem Ct.cX{K:KT [.one .slice,.one .slice,.one (.int .i64),.one (.int .i64)]}(h:Sh.cX e0 a b (Rt X [.one .slice,.one .slice,.one (.int .i64),.one (.int .i64)] K w) w.here):Ct Pg F.cX [.pointer e0,a.v,b.v] w X [.one .slice,.one .slice,.one (.int .i64),.one (.int .i64)] K:=
 cod (Sh.cX e0 a b) 103 [(10,103)] [(103,2)] [(2,0,[(6,.one .slice),(7,.one .slice),(11,.one (.int .i64)),(103,.one .slice),(104,.one .bool)]),(3,8,[(6,.one .slice),(7,.one .slice),(11,.one (.int .i64)),(103,.one .slice),(104,.one .bool)]),(2,2,[(6,.one .slice),(7,.one .slice)]),(3,14,[(6,.one .slice),(7,.one .slice),(77,.one (.int .i64)),(103,.one .slice),(104,.one .bool)])] f31 h
def Sh.cY(e0:Option Addr)(a:Sl)(b:Sl)(R:Value→TW→Prop)(w:TW):Prop:=
cl Pg F.aM [.pointer e0,a.v] w [.agg [.slice,.bool],.one .slice] λ(r:Sl)(_:Bool)(s:Sl) w1=>
nwv w1 λw2=>
nwv w2 λw3=>
cl Pg F.aM [.pointer e0,b.v] w3 [.agg [.slice,.bool],.one .slice] λ(r2:Sl)(_:Bool)(s1:Sl) w4=>
nwv w4 λw5=>
nwv w5 λw6=>
nck e0 λa1=>
ldc (.ptr) w6.drew a1 λ(v:Option Addr)=>
nck v λa2=>
ldc (.ptr) w6.drew a2 λ(v1:Option Addr)=>
nck v1 λa3=>
ldc (.ptr) w6.drew a3 λ(v2:Option Addr)=>
nck v2 λa4=>
ldc (.ptr) w6.drew a4 λ(v3:Option Addr)=>
nck v3 λa5=>
ldc (.ptr) w6.drew a5 λ(v4:Option Addr)=>
nwb w6.drew [r.v,r2.v] T.cL λb1 w7=>
hld w7 [(a5,.pointer v4),(a4,.pointer v3),(a3,.pointer v2),(a2,.pointer v1),(a1,.pointer v)] <|
cl Pg F.ep [.pointer v4,.slice (some ⟨b1,0,none⟩) 2 2] w7 [.one .slice] λ(s2:Sl) w8=>
hld w8 [(a4,.pointer v3),(a3,.pointer v2),(a2,.pointer v1),(a1,.pointer v)] <|
Jn [.slice] (λJ0=>
Lp [.slice,.slice] (λ(a6:Sl)(b2:Sl) w9 C0=>
cond (decide (((b2.n:Int):Int)>0)) (
cl Pg F.cX [.pointer e0,a6.v,b2.v] w9 [.one .slice,.one .slice,.one (.int .i64),.one (.int .i64)] λ(_:Sl)(s4:Sl)(_:Int)(_:Int) w10=>
cl Pg F.aM [.pointer e0,s4.v] w10 [.agg [.slice,.bool],.one .slice] λ(_:Sl)(_:Bool)(s5:Sl) w11=>
C0 b2 s5 w11) (
J0 a6 w9)) s s1 w8) λ(a7:Sl) w12=>
nck e0 λa8=>
ldc (.ptr) w12 a8 λ(v5:Option Addr)=>
nck v5 λa9=>
ldc (.ptr) w12 a9 λ(v6:Option Addr)=>
cl Pg F.aC [.pointer v6,a7.v,.agg #[s2.v,.bool false]] w12 [.one .slice] λ(s6:Sl) w13=>
R (s6.v) w13
theorem Ct.cY(h:Sh.cY e0 a b (Rt X [.one .slice] K w) w.here):Ct Pg F.cY [.pointer e0,a.v,b.v] w X [.one .slice] K:=
 cod (Sh.cY e0 a b) 79 [(7,79),(8,81)] [(79,2),(81,2)] [(2,0,[(1,.one .slice)]),(3,4,[(1,.one .slice),(2,.one .slice)])] f39 h
def Sh.gn(a:Sl)(R:Value→TW→Prop)(w:TW):Prop:=
nwv w λw1=>
bnd (wi ((a.n:Int)-1)) λn=>
ixa a n 2 λa1=>
ldc (.slice) w1 (a1.add 0) λ(v:Sl)=>
ldc (.bool) w1 (a1.add 1) λ(v1:Bool)=>
nwv w1 λw2=>
R (.agg #[v.v,.bool v1]) w2
theorem Ct.gn{K:KT [.agg [.slice,.bool]]}(h:Sh.gn a (Rt X [.agg [.slice,.bool]] K w) w.here):Ct Pg F.gn [a.v] w X [.agg [.slice,.bool]] K:=
 cod (Sh.gn a) 9 [(2,9)] [(9,2)] [] f55 h
def Sh.bq(e0:Option Addr)(a0:Sl)(a1:Bool)(b0:Sl)(b1:Bool)(R:Value→TW→Prop)(w:TW):Prop:=
nwv w λw1=>
nwv w1 λw2=>
nwv w2 λw3=>
nck e0 λa2=>
ldc (.ptr) w3.drew a2 λ(v:Option Addr)=>
nck v λa3=>
ldc (.ptr) w3.drew a3 λ(v1:Option Addr)=>
nck v1 λa4=>
ldc (.ptr) w3.drew a4 λ(v2:Option Addr)=>
nck v2 λa5=>
ldc (.ptr) w3.drew a5 λ(v3:Option Addr)=>
nck v3 λa6=>
ldc (.ptr) w3.drew a6 λ(v4:Option Addr)=>
nck v4 λa7=>
ldc (.ptr) w3.drew a7 λ(v5:Option Addr)=>
nck v5 λa8=>
ldc (.ptr) w3.drew a8 λ(v6:Option Addr)=>
nck v6 λa9=>
ldc (.ptr) w3.drew a9 λ(v7:Option Addr)=>
nck v7 λa10=>
ldc (.ptr) w3.drew a10 λ(v8:Option Addr)=>
nck v8 λa11=>
ldc (.ptr) w3.drew a11 λ(v9:Option Addr)=>
nck v9 λa12=>
ldc (.ptr) w3.drew a12 λ(v10:Option Addr)=>
nck v10 λa13=>
ldc (.ptr) w3.drew a13 λ(v11:Option Addr)=>
nck v11 λa14=>
ldc (.ptr) w3.drew a14 λ(v12:Option Addr)=>
cl Pg F.aN [.pointer v12,a0.v,b0.v] w3.drew [.one .slice] λ(s:Sl) w4=>
hld w4 [(a13,.pointer v11),(a12,.pointer v10),(a11,.pointer v9),(a10,.pointer v8),(a9,.pointer v7),(a8,.pointer v6),(a7,.pointer v5),(a6,.pointer v4),(a5,.pointer v3),(a4,.pointer v2),(a3,.pointer v1),(a2,.pointer v)] <|
Jn [.slice,.bool] (λJ0=>
cond (!(a1 == b1)) (
cl Pg F.bn [s.v] w4 [.one .bool] λ(ok:Bool) w5=>
nwv w5 λw6=>
J0 s (!ok) w6) (
nwv w4 λw7=>
J0 s false w7)) λ(x:Sl)(x1:Bool) w8=>
R (.agg #[x.v,.bool x1]) w8
theorem Ct.bq{a0:Sl}{a1:Bool}{b0:Sl}{b1:Bool}{K:KT [.agg [.slice,.bool]]}(h:Sh.bq e0 a0 a1 b0 b1 (Rt X [.agg [.slice,.bool]] K w) w.here):Ct Pg F.bq [.pointer e0,.agg #[a0.v,.bool a1],.agg #[b0.v,.bool b1]] w X [.agg [.slice,.bool]] K:=
 cod (Sh.bq e0 a0 a1 b0 b1) 65 [(4,65),(5,67),(6,69)] [(65,2),(67,2),(69,2)] [(0,2,[(69,.one .slice),(70,.one .bool)])] f69 h
def Sh.gW(c0:Sl)(c1:Bool)(k:Int)(R:Value→TW→Prop)(w:TW):Prop:=
nwv w λw1=>
bnd (wi (k+1)) λn=>
mks w1 n n T.ah 32 [.slice none 0 0,.bool false] λs w2=>
ixa s k 2 λa=>
stc w2 a c0.v λw3=>
stc w3 (a.add 1) (.bool c1) λw4=>
R (s.v) w4
theorem Ct.gW{c0:Sl}{c1:Bool}{k:Int}(h:Sh.gW c0 c1 k (Rt X [.one .slice] K w) w.here):Ct Pg F.gW [.agg #[c0.v,.bool c1],.int .i64 k] w X [.one .slice] K:=
 cod (Sh.gW c0 c1 k) 14 [(2,14)] [(14,2)] [] f78 h
end
section
set_option maxRecDepth 100000
open Go.Proofs.Tryz
variable {a a0:Sl} {a1:Bool} {n:Int} {w:TW} {X:Nat→Prop} {K:KT [.one .bool]}
def Sh.ch(a0:Sl)(a1:Bool)(n:Int)(R:Value→TW→Prop)(w:TW):Prop:=
nwv w λw1=>
nwv w1 λw2=>
cl Pg F.dT [a0.v,.int .i64 n] w2.drew [.one .slice] λ(s:Sl) w3=>
nwv w3 λw4=>
R (.agg #[s.v,.bool a1]) w4
theorem Ct.ch{K:KT [.agg [.slice,.bool]]}(h:Sh.ch a0 a1 n (Rt X [.agg [.slice,.bool]] K w) w.here):Ct Pg F.ch [.agg #[a0.v,.bool a1],.int .i64 n] w X [.agg [.slice,.bool]] K:=
 cod (Sh.ch a0 a1 n) 12 [(2,12),(4,14)] [(12,2),(14,2)] [] f13 h
def Sh.ck(a0:Sl)(a1:Bool)(b0:Sl)(b1:Bool)(R:Value→TW→Prop)(w:TW):Prop:=
nwv w λw1=>
nwv w1 λw2=>
Jn [.bool] (λJ0=>
cond (a1 == b1) (
cl Pg F.dE [a0.v,b0.v] w2 [.one .bool] λ(ok:Bool) w3=>
J0 ok w3) (
J0 false w2)) λ(x:Bool) w4=>
R (.bool x) w4
theorem Ct.ck{b0:Sl}{b1:Bool}(h:Sh.ck a0 a1 b0 b1 (Rt X [.one .bool] K w) w.here):Ct Pg F.ck [.agg #[a0.v,.bool a1],.agg #[b0.v,.bool b1]] w X [.one .bool] K:=
 cod (Sh.ck a0 a1 b0 b1) 17 [(2,17),(3,19)] [(17,2),(19,2)] [(0,1,[(4,.one .bool)])] f22 h
def Sh.bv(a:Sl)(k:Int)(n:Int)(R:Value→TW→Prop)(w:TW):Prop:=
Jn [.slice] (λJ0=>
Lp [.slice,.int .i64] (λ(out:Sl)(i:Int) w1 C0=>
Jn [.bool] (λJ1=>
cond (decide ((i:Int)<(a.n:Int))) (
J1 (decide ((i:Int)<k)) w1) (
J1 false w1)) λ(x:Bool) w2=>
cond x (
ixa a i 2 λa1=>
ldc (.slice) w2 (a1.add 0) λ(v:Sl)=>
ldc (.bool) w2 (a1.add 1) λ(v1:Bool)=>
cl Pg F.ch [.agg #[v.v,.bool v1],.int .i64 n] w2 [.agg [.slice,.bool]] λ(r:Sl)(r1:Bool) w3=>
nwb w3 [r.v,.bool r1] T.ah λb w4=>
apd w4 T.ah 2 32 out ⟨(some ⟨b,0,none⟩),1,1⟩ λs w5=>
bnd (wi (i+1)) λn1=>
C0 s n1 w5) (
J0 out w2)) Sl.nil 0 w) λ(out1:Sl) w6=>
R (out1.v) w6
theorem Ct.bv{k:Int}{K:KT [.one .slice]}(h:Sh.bv a k n (Rt X [.one .slice] K w) w.here):Ct Pg F.bv [a.v,.int .i64 k,.int .i64 n] w X [.one .slice] K:=
 cod (Sh.bv a k n) 30 [] [] [(2,0,[(7,.one .slice)]),(3,3,[(7,.one .slice),(8,.one (.int .i64))]),(0,3,[(17,.one .bool)])] f26 h
def Sh.dT(a:Sl)(n:Int)(R:Value→TW→Prop)(w:TW):Prop:=
bnd (if (n:Int)<(a.n:Int) then n else (a.n:Int)) λn1=>
slc a 0 n1 1 λs=>
R (s.v) w
theorem Ct.dT{K:KT [.one .slice]}(h:Sh.dT a n (Rt X [.one .slice] K w) w.here):Ct Pg F.dT [a.v,.int .i64 n] w X [.one .slice] K:=
 cod (Sh.dT a n) 11 [] [] [] f46 h
def Sh.dE(a:Sl)(b:Sl)(R:Value→TW→Prop)(w:TW):Prop:=
cond (((a.n:Int):Int) != (b.n:Int)) (
R (.bool false) w) (
Jn [] (λJ0=>
Lp [.int .i64] (λ(i:Int) w1 C0=>
cond (decide ((i:Int)<(a.n:Int))) (
ixa a i 1 λa1=>
ldc (.int .u64) w1.drew a1 λ(v:Int)=>
ixa b i 1 λa2=>
ldc (.int .u64) w1.drew a2 λ(v1:Int)=>
cond ((v:Int) != v1) (
R (.bool false) w1.drew) (
bnd (wi (i+1)) λn=>
C0 n w1.drew)) (
J0 w1)) 0 w) fun  w2=>
R (.bool true) w2)
theorem Ct.dE{b:Sl}(h:Sh.dE a b (Rt X [.one .bool] K w) w.here):Ct Pg F.dE [a.v,b.v] w X [.one .bool] K:=
 cod (Sh.dE a b) 26 [] [] [(2,0,[]),(3,4,[(5,.one (.int .i64))])] f62 h
end
section
set_option maxRecDepth 100000
open Go.Proofs.Tryz
variable {t:HL I11} {a b:Sl} {w:TW} {X:Nat→Prop} {K:KT [.one .bool]}
def Sh.bK(t:HL I11)(a:Sl)(b:Sl)(c0:Sl)(c1:Bool)(R:Value→TW→Prop)(w:TW):Prop:=
nwv w λw1=>
nwv w1 λw2=>
cl Pg F.bG [a.v,.int .i64 10,.int .i64 3] w2 [.one .slice,.one .slice] λ(_:Sl)(s1:Sl) w3=>
cl Pg F.bG [b.v,.int .i64 10,.int .i64 3] w3 [.one .slice,.one .slice] λ(s2:Sl)(s3:Sl) w4=>
cl Pg F.ch [.agg #[c0.v,.bool c1],.int .i64 2] w4 [.agg [.slice,.bool]] λ(r:Sl)(r1:Bool) w5=>
cl Pg F.bf [.agg #[r.v,.bool r1]] w5 [.agg [.slice,.bool]] λ(r2:Sl)(r3:Bool) w6=>
cl Pg F.ai [s1.v,.agg #[r2.v,.bool r3]] w6 [.one .slice] λ(s4:Sl) w7=>
cl Pg F.cj [s4.v] w7 [.one .slice] λ(s5:Sl) w8=>
cl Pg F.gB [.agg (aX I11 t).toArray] w8 [.one .ptr] λ(p:Option Addr) w9=>
cond (Option.isNone p) (
R (.bool false) w9) (
cl Pg F.ay [s4.v] w9 [.one .slice] λ(s6:Sl) w10=>
cl Pg F.ay [s3.v] w10 [.one .slice] λ(s7:Sl) w11=>
cl Pg F.cq [s6.v,s7.v] w11 [.one .slice] λ(s8:Sl) w12=>
cl Pg F.aM [.pointer p,s5.v] w12 [.agg [.slice,.bool],.one .slice] λ(r4:Sl)(r5:Bool)(s9:Sl) w13=>
nwv w13 λw14=>
nwv w14 λw15=>
cl Pg F.aH [s4.v] w15 [.agg [.slice,.bool],.one .slice] λ(r6:Sl)(r7:Bool)(s10:Sl) w16=>
nwv w16 λw17=>
nwv w17 λw18=>
Jn [.bool] (λJ0=>
nwb w18.drew [s5.v,s2.v] T.bV λb1 w19=>
cl Pg F.aF [.pointer p,.slice (some ⟨b1,0,none⟩) 2 2] w19 [.one .slice] λ(s11:Sl) w20=>
cl Pg F.bi [s8.v,s11.v] w20 [.one .bool] λ(ok:Bool) w21=>
cond ok (
(cl Pg F.ay [s4.v] w21 [.one .slice] λ(s12:Sl) w22=>
nwb w22 [s5.v] T.bV λb2 w23=>
cl Pg F.aF [.pointer p,.slice (some ⟨b2,0,none⟩) 1 1] w23 [.one .slice] λ(s13:Sl) w24=>
cl Pg F.bi [s12.v,s13.v] w24 [.one .bool] λ(ok1:Bool) w25=>
cond ok1 (
cl Pg F.aF [.pointer p,.slice none 0 0] w25 [.one .slice] λ(s14:Sl) w26=>
cond (((s14.n:Int):Int) == 0) (
cl Pg F.bP [.agg #[r6.v,.bool r7]] w26 [.agg [.slice,.bool]] λ(r8:Sl)(r9:Bool) w27=>
cl Pg F.ck [.agg #[r4.v,.bool r5],.agg #[r8.v,.bool r9]] w27 [.one .bool] λ(ok2:Bool) w28=>
cond ok2 (
cl Pg F.aT [s10.v,s9.v] w28 [.one .bool] λ(ok3:Bool) w29=>
cond ok3 (
cl Pg F.aP [] w29 [.one .bool] λ(ok4:Bool) w30=>
J0 ok4 w30) (
J0 false w29)) (
J0 false w28)) (
J0 false w26)) (
J0 false w25))∧
(nwb w21 [s5.v] T.bV λb3 w31=>
cl Pg F.ay [s4.v] w31 [.one .slice] λ(s15:Sl) w32=>
cl Pg F.aF [.pointer p,.slice (some ⟨b3,0,none⟩) 1 1] w32 [.one .slice] λ(s16:Sl) w33=>
cl Pg F.bi [s15.v,s16.v] w33 [.one .bool] λ(ok5:Bool) w34=>
cond ok5 (
cl Pg F.aF [.pointer p,.slice none 0 0] w34 [.one .slice] λ(s17:Sl) w35=>
cond (((s17.n:Int):Int) == 0) (
cl Pg F.bP [.agg #[r6.v,.bool r7]] w35 [.agg [.slice,.bool]] λ(r10:Sl)(r11:Bool) w36=>
cl Pg F.ck [.agg #[r4.v,.bool r5],.agg #[r10.v,.bool r11]] w36 [.one .bool] λ(ok6:Bool) w37=>
cond ok6 (
cl Pg F.aT [s10.v,s9.v] w37 [.one .bool] λ(ok7:Bool) w38=>
cond ok7 (
cl Pg F.aP [] w38 [.one .bool] λ(ok8:Bool) w39=>
J0 ok8 w39) (
J0 false w38)) (
J0 false w37)) (
J0 false w35)) (
J0 false w34))) (
(J0 false w21)∧
(J0 false w21))) λ(x:Bool) w40=>
R (.bool x) w40)
theorem Ct.bK{c0:Sl}{c1:Bool}(h:Sh.bK t a b c0 c1 (Rt X [.one .bool] K w) w.here):Ct Pg F.bK [.agg (aX I11 t).toArray,a.v,b.v,.agg #[c0.v,.bool c1]] w X [.one .bool] K:=
 cod (Sh.bK t a b c0 c1) 90 [(4,90),(7,101),(13,103),(15,105)] [(90,11),(101,2),(103,2),(105,2)] [(0,11,[(8,.one .bool)])] f3 h
def Sh.aU(t:HL I11)(x:Sl)(y:Sl)(fit:Bool)(whole:Bool)(R:Value→TW→Prop)(w:TW):Prop:=
nwv w λw1=>
cl Pg F.bv [x.v,.int .i64 7,.int .i64 1] w1 [.one .slice] λ(s:Sl) w2=>
cl Pg F.bv [y.v,.int .i64 7,.int .i64 2] w2 [.one .slice] λ(s1:Sl) w3=>
Jn [.slice,.slice,.int .i64,.int .i64,.int .i64,.int .i64,.int .i64,.int .i64,.int .i64,.int .i64,.int .i64,.int .i64,.int .i64] (λJ0=>
cond fit (
bnd (if ((s1.n:Int):Int)<(s.n:Int) then (s1.n:Int) else (s.n:Int)) λn=>
slc s 0 n 2 λs2=>
slc s1 0 n 2 λs3=>
J0 s2 s3 t.1 t.2.1 t.2.2.1 t.2.2.2.1 t.2.2.2.2.1 t.2.2.2.2.2.1 t.2.2.2.2.2.2.1 t.2.2.2.2.2.2.2.1 t.2.2.2.2.2.2.2.2.1 t.2.2.2.2.2.2.2.2.2.1 t.2.2.2.2.2.2.2.2.2.2.1 w3.drew) (
J0 s s1 t.1 t.2.1 t.2.2.1 t.2.2.2.1 t.2.2.2.2.1 t.2.2.2.2.2.1 t.2.2.2.2.2.2.1 t.2.2.2.2.2.2.2.1 t.2.2.2.2.2.2.2.2.1 t.2.2.2.2.2.2.2.2.2.1 t.2.2.2.2.2.2.2.2.2.2.1 w3)) λ(x1:Sl)(y1:Sl)(t1:Int)(t2:Int)(t3:Int)(t4:Int)(t5:Int)(t6:Int)(t7:Int)(t8:Int)(t9:Int)(t10:Int)(t11:Int) w4=>
Jn [.bool,.int .i64,.int .i64,.int .i64,.int .i64,.int .i64,.int .i64,.int .i64,.int .i64,.int .i64,.int .i64,.int .i64] (λJ1=>
cond whole (
J1 (((x1.n:Int):Int) == (y1.n:Int)) t1 t2 t3 t4 t5 t6 t7 t8 t9 t10 t11 w4) (
J1 false t1 t2 t3 t4 t5 t6 t7 t8 t9 t10 t11 w4)) λ(x2:Bool)(t12:Int)(t13:Int)(t14:Int)(t15:Int)(t16:Int)(t17:Int)(t18:Int)(t19:Int)(t20:Int)(t21:Int)(t22:Int) w5=>
Jn [.slice,.int .i64,.int .i64,.int .i64,.int .i64,.int .i64,.int .i64,.int .i64,.int .i64,.int .i64,.int .i64,.int .i64] (λJ2=>
cond x2 (
cl Pg F.cE [y1.v] w5 [.one .slice] λ(s4:Sl) w6=>
Jn [.slice,.int .i64,.int .i64,.int .i64,.int .i64,.int .i64,.int .i64,.int .i64,.int .i64,.int .i64,.int .i64,.int .i64] (λJ3=>
Lp [.slice,.int .i64,.int .i64,.int .i64,.int .i64,.int .i64,.int .i64,.int .i64,.int .i64,.int .i64,.int .i64,.int .i64,.int .i64] (λ(y2:Sl)(i:Int)(t23:Int)(t24:Int)(t25:Int)(t26:Int)(t27:Int)(t28:Int)(t29:Int)(t30:Int)(t31:Int)(t32:Int)(t33:Int) w7 C0=>
cond (decide ((i:Int)<(x1.n:Int))) (
ixa x1 i 2 λa=>
ldc (.slice) w7 (a.add 0) λ(v:Sl)=>
ldc (.bool) w7 (a.add 1) λ(v1:Bool)=>
cl Pg F.bf [.agg #[v.v,.bool v1]] w7 [.agg [.slice,.bool]] λ(r:Sl)(r1:Bool) w8=>
cl Pg F.dS [s4.v,.agg #[r.v,.bool r1]] w8 [.agg [.slice,.bool]] λ(r2:Sl)(r3:Bool) w9=>
cl Pg F.bP [.agg #[r2.v,.bool r3]] w9 [.agg [.slice,.bool]] λ(r4:Sl)(r5:Bool) w10=>
nwb w10 [r4.v,.bool r5] T.ah λb w11=>
apd w11 T.ah 2 32 y2 ⟨(some ⟨b,0,none⟩),1,1⟩ λs5 w12=>
bnd (wi (i+1)) λn1=>
C0 s5 n1 t23 t24 t25 t26 t27 t28 t29 t30 t31 t32 t33 w12) (
J3 y2 t23 t24 t25 t26 t27 t28 t29 t30 t31 t32 t33 w7)) Sl.nil 0 t12 t13 t14 t15 t16 t17 t18 t19 t20 t21 t22 w6) λ(y3:Sl)(t34:Int)(t35:Int)(t36:Int)(t37:Int)(t38:Int)(t39:Int)(t40:Int)(t41:Int)(t42:Int)(t43:Int)(t44:Int) w13=>
J2 y3 t34 t35 t36 t37 t38 t39 t40 t41 t42 t43 t44 w13) (
J2 y1 t12 t13 t14 t15 t16 t17 t18 t19 t20 t21 t22 w5)) λ(y4:Sl)(t45:Int)(t46:Int)(t47:Int)(t48:Int)(t49:Int)(t50:Int)(t51:Int)(t52:Int)(t53:Int)(t54:Int)(t55:Int) w14=>
cl Pg F.gB [.agg #[.int .i64 t45,.int .i64 t46,.int .i64 t47,.int .i64 t48,.int .i64 t49,.int .i64 t50,.int .i64 t51,.int .i64 t52,.int .i64 t53,.int .i64 t54,.int .i64 t55]] w14 [.one .ptr] λ(p:Option Addr) w15=>
cond (Option.isNone p) (
R (.bool false) w15) (
cl Pg F.bd [.pointer p,x1.v,y4.v] w15 [.one .slice,.one (.int .i64)] λ(s6:Sl)(r6:Int) w16=>
cl Pg F.bp [x1.v,y4.v] w16 [.one .slice,.one (.int .i64)] λ(s7:Sl)(r7:Int) w17=>
Jn [.bool] (λJ4=>
cond ((r6:Int) == r7) (
cl Pg F.aT [s7.v,s6.v] w17 [.one .bool] λ(ok:Bool) w18=>
cond ok (
cl Pg F.aP [] w18 [.one .bool] λ(ok1:Bool) w19=>
J4 ok1 w19) (
J4 false w18)) (
J4 false w17)) λ(x3:Bool) w20=>
R (.bool x3) w20)
theorem Ct.aU{x:Sl}{y:Sl}{fit:Bool}{whole:Bool}(h:Sh.aU t x y fit whole (Rt X [.one .bool] K w) w.here):Ct Pg F.aU [.agg (aX I11 t).toArray,x.v,y.v,.bool fit,.bool whole] w X [.one .bool] K:=
 cod (Sh.aU t x y fit whole) 90 [(5,90)] [(90,11)] [(1,3,[(1,.one .slice),(2,.one .slice),(90,.one (.int .i64)),(91,.one (.int .i64)),(92,.one (.int .i64)),(93,.one (.int .i64)),(94,.one (.int .i64)),(95,.one (.int .i64)),(96,.one (.int .i64)),(97,.one (.int .i64)),(98,.one (.int .i64)),(99,.one (.int .i64)),(100,.one (.int .i64))]),(0,5,[(42,.one .bool),(90,.one (.int .i64)),(91,.one (.int .i64)),(92,.one (.int .i64)),(93,.one (.int .i64)),(94,.one (.int .i64)),(95,.one (.int .i64)),(96,.one (.int .i64)),(97,.one (.int .i64)),(98,.one (.int .i64)),(99,.one (.int .i64)),(100,.one (.int .i64))]),(1,6,[(2,.one .slice),(90,.one (.int .i64)),(91,.one (.int .i64)),(92,.one (.int .i64)),(93,.one (.int .i64)),(94,.one (.int .i64)),(95,.one (.int .i64)),(96,.one (.int .i64)),(97,.one (.int .i64)),(98,.one (.int .i64)),(99,.one (.int .i64)),(100,.one (.int .i64))]),(2,0,[(2,.one .slice),(90,.one (.int .i64)),(91,.one (.int .i64)),(92,.one (.int .i64)),(93,.one (.int .i64)),(94,.one (.int .i64)),(95,.one (.int .i64)),(96,.one (.int .i64)),(97,.one (.int .i64)),(98,.one (.int .i64)),(99,.one (.int .i64)),(100,.one (.int .i64))]),(3,9,[(2,.one .slice),(13,.one (.int .i64)),(90,.one (.int .i64)),(91,.one (.int .i64)),(92,.one (.int .i64)),(93,.one (.int .i64)),(94,.one (.int .i64)),(95,.one (.int .i64)),(96,.one (.int .i64)),(97,.one (.int .i64)),(98,.one (.int .i64)),(99,.one (.int .i64)),(100,.one (.int .i64))]),(0,17,[(10,.one .bool)])] f4 h
def Sh.bN(t:HL I11)(a:Sl)(b:Sl)(c:Sl)(R:Value→TW→Prop)(w:TW):Prop:=
nwv w λw1=>
cl Pg F.bG [a.v,.int .i64 4,.int .i64 2] w1 [.one .slice,.one .slice] λ(_:Sl)(s1:Sl) w2=>
cl Pg F.bG [b.v,.int .i64 4,.int .i64 2] w2 [.one .slice,.one .slice] λ(_:Sl)(s3:Sl) w3=>
cl Pg F.bG [c.v,.int .i64 3,.int .i64 1] w3 [.one .slice,.one .slice] λ(_:Sl)(s5:Sl) w4=>
cl Pg F.aJ [s1.v,s5.v] w4 [.one .slice] λ(s6:Sl) w5=>
cl Pg F.aJ [s3.v,s5.v] w5 [.one .slice] λ(s7:Sl) w6=>
cl Pg F.gB [.agg (aX I11 t).toArray] w6 [.one .ptr] λ(p:Option Addr) w7=>
cond (Option.isNone p) (
R (.bool false) w7) (
cl Pg F.cj [s6.v] w7 [.one .slice] λ(s8:Sl) w8=>
cl Pg F.cj [s7.v] w8 [.one .slice] λ(s9:Sl) w9=>
cl Pg F.cY [.pointer p,s8.v,s9.v] w9 [.one .slice] λ(s10:Sl) w10=>
Jn [.bool] (λJ0=>
cl Pg F.cz [s6.v,s7.v] w10 [.one .slice] λ(s11:Sl) w11=>
cl Pg F.aT [s11.v,s10.v] w11 [.one .bool] λ(ok:Bool) w12=>
cond ok (
cl Pg F.aP [] w12 [.one .bool] λ(ok1:Bool) w13=>
J0 ok1 w13) (
J0 false w12)) λ(x:Bool) w14=>
R (.bool x) w14)
theorem Ct.bN{c:Sl}(h:Sh.bN t a b c (Rt X [.one .bool] K w) w.here):Ct Pg F.bN [.agg (aX I11 t).toArray,a.v,b.v,c.v] w X [.one .bool] K:=
 cod (Sh.bN t a b c) 56 [(4,56)] [(56,11)] [(0,9,[(8,.one .bool)])] f8 h
def Sh.bG(a:Sl)(n:Int)(k:Int)(R:Value→TW→Prop)(w:TW):Prop:=
cl Pg F.bv [a.v,.int .i64 n,.int .i64 k] w [.one .slice] λ(s:Sl) w1=>
cl Pg F.cE [s.v] w1 [.one .slice] λ(s1:Sl) w2=>
R (.tuple #[s.v,s1.v]) w2
theorem Ct.bG{n:Int}{k:Int}{K:KT [.one .slice,.one .slice]}(h:Sh.bG a n k (Rt X [.one .slice,.one .slice] K w) w.here):Ct Pg F.bG [a.v,.int .i64 n,.int .i64 k] w X [.one .slice,.one .slice] K:=
 cod (Sh.bG a n k) 15 [] [] [] f10 h
def Sh.aP(R:Value→TW→Prop)(w:TW):Prop:=
cl Pg F.gB [.agg #[.int .i64 0,.int .i64 0,.int .i64 0,.int .i64 0,.int .i64 0,.int .i64 0,.int .i64 0,.int .i64 0,.int .i64 0,.int .i64 0,.int .i64 0]] w [.one .ptr] λ(p:Option Addr) w1=>
cond (Option.isNone p) (
R (.bool false) w1) (
cl Pg F.fJ [.int .i64 4] w1 [.agg [.slice,.bool]] λ(r:Sl)(r1:Bool) w2=>
cl Pg F.fJ [.int .i64 (-2)] w2 [.agg [.slice,.bool]] λ(r2:Sl)(r3:Bool) w3=>
nwb w3 [r.v,.bool r1,r2.v,.bool r3] T.ah λb w4=>
cl Pg F.aM [.pointer p,.slice (some ⟨b,0,none⟩) 2 2] w4 [.agg [.slice,.bool],.one .slice] λ(r4:Sl)(r5:Bool)(s:Sl) w5=>
nwv w5 λw6=>
nwv w6 λw7=>
cl Pg F.fJ [.int .i64 0] w7 [.agg [.slice,.bool]] λ(r6:Sl)(r7:Bool) w8=>
cl Pg F.fJ [.int .i64 2] w8 [.agg [.slice,.bool]] λ(r8:Sl)(r9:Bool) w9=>
nwb w9 [r6.v,.bool r7,r8.v,.bool r9] T.ah λb1 w10=>
cl Pg F.fJ [.int .i64 0] w10 [.agg [.slice,.bool]] λ(r10:Sl)(r11:Bool) w11=>
cl Pg F.fJ [.int .i64 1] w11 [.agg [.slice,.bool]] λ(r12:Sl)(r13:Bool) w12=>
nwb w12 [r10.v,.bool r11,r12.v,.bool r13] T.ah λb2 w13=>
cl Pg F.bd [.pointer p,.slice (some ⟨b1,0,none⟩) 2 2,.slice (some ⟨b2,0,none⟩) 2 2] w13 [.one .slice,.one (.int .i64)] λ(_:Sl)(r14:Int) w14=>
Jn [.bool] (λJ0=>
cl Pg F.fJ [.int .i64 (-2)] w14.drew [.agg [.slice,.bool]] λ(r15:Sl)(r16:Bool) w15=>
cl Pg F.ck [.agg #[r4.v,.bool r5],.agg #[r15.v,.bool r16]] w15 [.one .bool] λ(ok:Bool) w16=>
cond ok (
cond (((s.n:Int):Int) == 2) (
J0 ((r14:Int) == 7) w16) (
J0 false w16)) (
J0 false w16)) λ(x:Bool) w17=>
R (.bool x) w17)
theorem Ct.aP(h:Sh.aP (Rt X [.one .bool] K w) w.here):Ct Pg F.aP [] w X [.one .bool] K:=
 cod Sh.aP 41 [(2,41)] [(41,2)] [(0,6,[(0,.one .bool)])] f25 h
end
end Go.Proofs.YtpbimnlggalnfaaGreatDoor.Zg
