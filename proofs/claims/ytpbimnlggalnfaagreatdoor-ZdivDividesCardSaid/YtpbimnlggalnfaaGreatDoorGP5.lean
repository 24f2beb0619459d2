/- A part of the proofs of this seat's laws. -/
import Derived.Test.YtpbimnlggalnfaaGreatDoorGC
set_option linter.unusedVariables false
set_option linter.unusedSimpArgs false
set_option linter.unnecessarySimpa false
namespace Go.Proofs.YtpbimnlggalnfaaGreatDoor.Zg
open Go.RowKit
section
set_option maxRecDepth 100000
open Go.Proofs.Tryz
variable {e0:Option Addr} {a a0 b:Sl} {k n p:Int} {a1:Bool}
def Sh.mj(t:HL I11):PR:=λR w=>
nwv w λw1=>
cl Pg F.lk [.agg (aM I11 t).toArray] w1 [.one .ptr] λ(p:OA) w2=>
nwb w2 [.pointer p] T.wI λb w3=>
R (.pointer (some ⟨b,0,none⟩)) w3
theorem Ct.mj{t:HL I11}:CG (Sh.mj t) F.mj [.agg (aM I11 t).toArray] [.one .ptr]:=cod 7 [(1,7)] [(7,11)] [] f47
def Sh.ax(e0:Option Addr)(a:Sl)(b:Sl):PR:=λR w=>
cl Pg F.jl [a.v] w [.one (.int .i64)] λ(r:Int) w1=>
cl Pg F.jl [b.v] w1 [.one (.int .i64)] λ(r1:Int) w2=>
bnd (if (r1:Int)<r then r1 else r) λn=>
bnd (wi (n+1)) λn1=>
nck e0 λa1=>
ldc (.ptr) w2 a1 λ(v:OA)=>
ch 14 w2 v λ(v15:OA)=>
nck v15 λa17=>
ldc (.int .i64) w2 ((a17.add 3).add 7) λ(v16:Int)=>
cond (decide ((n1:Int)<v16)) (
nck e0 λa18=>
ldc (.ptr) w2 a18 λ(v17:OA)=>
cl Pg F.cJ [.pointer v17,a.v,b.v] w2 [.one .slice] λ(s:Sl) w3=>
R (s.v) w3) (
ch 15 w2 e0 λ(v33:OA)=>
nck v33 λa35=>
ldc (.int .i64) w2 ((a35.add 3).add 8) λ(v34:Int)=>
cond (decide ((n1:Int)<v34)) (
cl Pg F.ei [.pointer e0,a.v,b.v] w2 [.one .slice] λ(s1:Sl) w4=>
R (s1.v) w4) (
cl Pg F.eh [.pointer e0,a.v,b.v] w2 [.one .slice] λ(s2:Sl) w5=>
R (s2.v) w5))
theorem Ct.ax:CG (Sh.ax e0 a b) F.ax [.pointer e0,a.v,b.v] [.one .slice]:=cod 141 [] [] [] f67
def Sh.ei(e0:Option Addr)(a:Sl)(b:Sl):PR:=λR w=>
cl Pg F.ba [a.v] w [.one .slice] λ(s:Sl) w1=>
cl Pg F.ba [b.v] w1 [.one .slice] λ(s1:Sl) w2=>
Jn [.bool] (λJ0=>
cond (((s.n:Int):Int) == 0) (
J0 true w2) (
J0 (((s1.n:Int):Int) == 0) w2)) λ(x:Bool) w3=>
cond x (
R (.slice none 0 0) w3) (
cl Pg F.cC [.pointer e0,s.v,s1.v] w3 [.one (.int .i64)] λ(r:Int) w4=>
bnd (wi (r+2)) λn=>
cond (decide ((n:Int)>1048576)) (
nck e0 λa1=>
ldc (.ptr) w4 a1 λ(v:OA)=>
cl Pg F.cJ [.pointer v,s.v,s1.v] w4 [.one .slice] λ(s2:Sl) w5=>
R (s2.v) w5) (
cl Pg F.il [s.v,.int .i64 n] w4 [.agg [.slice,.bool]] λ(r1:Sl)(r2:Bool) w6=>
cl Pg F.il [s1.v,.int .i64 n] w6 [.agg [.slice,.bool]] λ(r3:Sl)(r4:Bool) w7=>
nwv w7 λw8=>
nwv w8 λw9=>
nwv w9 λw10=>
nwv w10 λw11=>
nck e0 λa2=>
ldc (.ptr) w11.drew a2 λ(v1:OA)=>
nck v1 λa3=>
ldc (.ptr) w11.drew a3 λ(v2:OA)=>
nck v2 λa4=>
ldc (.ptr) w11.drew a4 λ(v3:OA)=>
nck v3 λa5=>
ldc (.ptr) w11.drew a5 λ(v4:OA)=>
nck v4 λa6=>
ldc (.ptr) w11.drew a6 λ(v5:OA)=>
nck v5 λa7=>
ldc (.ptr) w11.drew a7 λ(v6:OA)=>
nck v6 λa8=>
ldc (.ptr) w11.drew a8 λ(v7:OA)=>
nck v7 λa9=>
ldc (.ptr) w11.drew a9 λ(v8:OA)=>
nck v8 λa10=>
ldc (.ptr) w11.drew a10 λ(v9:OA)=>
nck v9 λa11=>
ldc (.ptr) w11.drew a11 λ(v10:OA)=>
nck v10 λa12=>
ldc (.ptr) w11.drew a12 λ(v11:OA)=>
nck v11 λa13=>
ldc (.ptr) w11.drew a13 λ(v12:OA)=>
cl Pg F.au [.pointer v12,r1.v,r3.v] w11.drew [.one .slice] λ(s3:Sl) w12=>
hld w12 [(a12,.pointer v11),(a11,.pointer v10),(a10,.pointer v9),(a9,.pointer v8),(a8,.pointer v7),(a7,.pointer v6),(a6,.pointer v5),(a5,.pointer v4),(a4,.pointer v3),(a3,.pointer v2),(a2,.pointer v1)] <|
cl Pg F.i8 [.agg #[s3.v,.bool (!(r2 == r4))]] w12 [.agg [.slice,.bool]] λ(r5:Sl)(r6:Bool) w13=>
cl Pg F.gk [.agg #[r5.v,.bool r6],.int .i64 n] w13 [.one .slice] λ(s4:Sl) w14=>
R (s4.v) w14))
theorem Ct.ei:CG (Sh.ei e0 a b) F.ei [.pointer e0,a.v,b.v] [.one .slice]:=cod 95 [(8,95),(9,97)] [(95,2),(97,2)] [(0,2,[(22,.one .bool)])] f97
def Sh.eh(e0:Option Addr)(a:Sl)(b:Sl):PR:=λR w=>
cl Pg F.ba [a.v] w [.one .slice] λ(s:Sl) w1=>
cl Pg F.ba [b.v] w1 [.one .slice] λ(s1:Sl) w2=>
Jn [.bool] (λJ0=>
cond (((s.n:Int):Int) == 0) (
J0 true w2) (
J0 (((s1.n:Int):Int) == 0) w2)) λ(x:Bool) w3=>
cond x (
R (.slice none 0 0) w3) (
bnd (wi ((s.n:Int)+(s1.n:Int))) λn=>
bnd (wi (n-1)) λn1=>
mks w3 n1 n1 T.pE 48 [.slice none 0 0,.slice none 0 0] λs2 w4=>
cl Pg F.aX [.int .u64 1] w4 [.one .slice] λ(s3:Sl) w5=>
Jn [.slice] (λJ1=>
Lp [.slice,.int .u64] (λ(m:Sl)(p:Int) w6 C0=>
cl Pg F.bo [m.v] w6 [.one (.int .i64)] λ(r:Int) w7=>
cl Pg F.cC [.pointer e0,s.v,s1.v] w7 [.one (.int .i64)] λ(r1:Int) w8=>
bnd (wi (r1+2)) λn2=>
cond (decide ((r:Int)<n2)) (
cl Pg F.iO [.int .u64 p] w8 [.one (.int .u64)] λ(r2:Int) w9=>
cl Pg F.cR [.pointer e0,s.v,s1.v,.int .u64 r2] w9 [.one .slice] λ(s4:Sl) w10=>
cl Pg F.eg [.pointer e0,s2.v,m.v,s4.v,.int .u64 r2] w10 [] λw11=>
cl Pg F.cN [m.v,.int .u64 r2] w11 [.one .slice] λ(s5:Sl) w12=>
C0 s5 r2 w12) (
J1 m w8)) s3 4611686018427387904 w5) λ(m1:Sl) w13=>
mks w13 (s2.n:Int) (s2.n:Int) T.af 32 [.slice none 0 0,.bool false] λs6 w14=>
Jn [] (λJ2=>
Lp [.int .i64] (λ(x1:Int) w15 C1=>
cond (decide ((x1:Int)<(s2.n:Int))) (
ixa s2 x1 2 λa1=>
ldc (.slice) w15 (a1.add 0) λ(v:Sl)=>
ldc (.slice) w15 (a1.add 1) λ(_:Sl)=>
nwv w15 λw16=>
nwv w16 λw17=>
nck e0 λa2=>
ldc (.ptr) w17.drew a2 λ(v2:OA)=>
nck v2 λa3=>
ldc (.ptr) w17.drew a3 λ(v3:OA)=>
cl Pg F.dc [.pointer v3,.agg #[v.v,m1.v]] w17.drew [.agg [.slice,.bool],.one (.int .i64)] λ(r3:Sl)(r4:Bool)(_:Int) w18=>
hld w18 [(a2,.pointer v2)] <|
ixa s6 x1 2 λa4=>
stc w18 a4 r3.v λw19=>
stc w19 (a4.add 1) (.bool r4) λw20=>
bnd (wi (x1+1)) λn3=>
C1 n3 w20) (
J2 w15)) 0 w14) fun  w21=>
cl Pg F.ba [s6.v] w21 [.one .slice] λ(s7:Sl) w22=>
R (s7.v) w22)
theorem Ct.eh:CG (Sh.eh e0 a b) F.eh [.pointer e0,a.v,b.v] [.one .slice]:=cod 89 [(13,89)] [(89,2)] [(0,2,[(25,.one .bool)]),(2,0,[(8,.one .slice)]),(3,7,[(8,.one .slice),(9,.one (.int .u64))]),(2,2,[]),(3,14,[(63,.one (.int .i64))])] f98
def Sh.cC(e0:Option Addr)(a:Sl)(b:Sl):PR:=λR w=>
cl Pg F.ba [a.v] w [.one .slice] λ(s:Sl) w1=>
cl Pg F.ba [b.v] w1 [.one .slice] λ(s1:Sl) w2=>
Jn [.bool] (λJ0=>
cond (((s.n:Int):Int) == 0) (
J0 true w2) (
J0 (((s1.n:Int):Int) == 0) w2)) λ(x:Bool) w3=>
cond x (
R (.int .i64 0) w3) (
cl Pg F.fY [s.v] w3 [.one (.int .i64)] λ(r:Int) w4=>
cl Pg F.fY [s1.v] w4 [.one (.int .i64)] λ(r1:Int) w5=>
bnd (wi (r+r1)) λn=>
bnd (if ((s1.n:Int):Int)<(s.n:Int) then (s1.n:Int) else (s.n:Int)) λn1=>
bnd (wu (n1)) λn2=>
cl Pg F.jX [.int .u64 n2] w5 [.one (.int .i64)] λ(r2:Int) w6=>
bnd (wi (n+r2)) λn3=>
R (.int .i64 n3) w6)
theorem Ct.cC:CG (Sh.cC e0 a b) F.cC [.pointer e0,a.v,b.v] [.one (.int .i64)]:=cod 32 [] [] [(0,2,[(18,.one .bool)])] f112
def Sh.il(a:Sl)(k:Int):PR:=λR w=>
nwv w λw1=>
cond (((a.n:Int):Int) == 0) (
nwv w1 λw2=>
R (.agg #[.slice none 0 0,.bool false]) w2) (
cond (((a.n:Int):Int) == 1) (
ixa a 0 2 λa1=>
ldc (.slice) w1 (a1.add 0) λ(v:Sl)=>
ldc (.bool) w1 (a1.add 1) λ(v1:Bool)=>
cl Pg F.i8 [.agg #[v.v,.bool v1]] w1 [.agg [.slice,.bool]] λ(r:Sl)(r1:Bool) w3=>
nwv w3 λw4=>
R (.agg #[r.v,.bool r1]) w4) (
d9 .i64 (a.n:Int) 2 λn=>
slc a n (a.n:Nat) 2 λs=>
cl Pg F.il [s.v,.int .i64 k] w1 [.agg [.slice,.bool]] λ(r2:Sl)(r3:Bool) w5=>
nwv w5 λw6=>
nwv w6 λw7=>
slc a 0 n 2 λs1=>
bnd (wi (k*n)) λn1=>
cl Pg F.il [s1.v,.int .i64 k] w7.drew [.agg [.slice,.bool]] λ(r4:Sl)(r5:Bool) w8=>
cl Pg F.ik [.agg #[r2.v,.bool r3],.int .i64 n1] w8 [.agg [.slice,.bool]] λ(r6:Sl)(r7:Bool) w9=>
cl Pg F.jE [.agg #[r4.v,.bool r5],.agg #[r6.v,.bool r7]] w9 [.agg [.slice,.bool]] λ(r8:Sl)(r9:Bool) w10=>
nwv w10 λw11=>
R (.agg #[r8.v,.bool r9]) w11))
theorem Ct.il:CG (Sh.il a k) F.il [a.v,.int .i64 k] [.agg [.slice,.bool]]:=cod 37 [(4,37),(6,39)] [(37,2),(39,2)] [] f113
def Sh.gk(a0:Sl)(a1:Bool)(k:Int):PR:=λR w=>
nwv w λw1=>
cl Pg F.aX [.int .u64 1] w1 [.one .slice] λ(s:Sl) w2=>
cl Pg F.bV [s.v,.int .i64 k] w2 [.one .slice] λ(s1:Sl) w3=>
cl Pg F.aX [.int .u64 1] w3 [.one .slice] λ(s2:Sl) w4=>
bnd (wi (k-1)) λn=>
cl Pg F.bV [s2.v,.int .i64 n] w4 [.one .slice] λ(s3:Sl) w5=>
cl Pg F.bo [a0.v] w5 [.one (.int .i64)] λ(r:Int) w6=>
bnd (wi (r+k)) λn1=>
bnd (wi (n1-1)) λn2=>
d9 .i64 n2 k λn3=>
Jn [.slice] (λJ0=>
Lp [.slice,.slice,.int .i64,.slice,.bool] (λ(out:Sl)(carry:Sl)(i:Int)(a2:Sl)(a3:Bool) w7 C0=>
Jn [.bool,.slice,.bool] (λJ1=>
cond (decide ((i:Int)<n3)) (
J1 true a2 a3 w7) (
cl Pg F.aB [carry.v] w7 [.one .bool] λ(ok:Bool) w8=>
J1 (!ok) a2 a3 w8)) λ(x:Bool)(a4:Sl)(a5:Bool) w9=>
cond x (
bnd (wi (i*k)) λn4=>
cl Pg F.iN [a4.v,.int .i64 n4,.int .i64 k] w9 [.one .slice] λ(s4:Sl) w10=>
cl Pg F.bG [s4.v,carry.v] w10 [.one .slice] λ(s5:Sl) w11=>
nwv w11 λw12=>
nwv w12 λw13=>
cl Pg F.cO [s5.v,s3.v] w13 [.one (.int .i64)] λ(r1:Int) w14=>
Jn [.bool,.slice,.bool,.slice,.bool] (λJ2=>
cond (decide ((r1:Int)>0)) (
J2 true a4 a5 s5 a5 w14) (
cond ((r1:Int) == 0) (
J2 a5 a4 a5 s5 a5 w14) (
J2 false a4 a5 s5 a5 w14))) λ(x1:Bool)(a6:Sl)(a7:Bool)(x2:Sl)(x3:Bool) w15=>
Jn [.slice,.slice,.bool,.slice,.bool] (λJ3=>
cond x1 (
cl Pg F.aP [s1.v,s5.v] w15 [.one .slice,.one .bool] λ(s6:Sl)(_:Bool) w16=>
nwv w16 λw17=>
cl Pg F.aX [.int .u64 1] w17 [.one .slice] λ(s7:Sl) w18=>
J3 s7 a6 a7 s6 (!a7) w18) (
J3 Sl.nil a6 a7 x2 x3 w15)) λ(carry1:Sl)(a8:Sl)(a9:Bool)(x4:Sl)(x5:Bool) w19=>
cl Pg F.i8 [.agg #[x4.v,.bool x5]] w19 [.agg [.slice,.bool]] λ(r2:Sl)(r3:Bool) w20=>
nwb w20 [r2.v,.bool r3] T.af λb w21=>
apd w21 T.af 2 32 out ⟨(some ⟨b,0,none⟩),1,1⟩ λs8 w22=>
bnd (wi (i+1)) λn5=>
C0 s8 carry1 n5 a8 a9 w22) (
J0 out w9)) Sl.nil Sl.nil 0 a0 a1 w6) λ(out1:Sl) w23=>
cl Pg F.ba [out1.v] w23 [.one .slice] λ(s9:Sl) w24=>
R (s9.v) w24
theorem Ct.gk:CG (Sh.gk a0 a1 k) F.gk [.agg #[a0.v,.bool a1],.int .i64 k] [.one .slice]:=cod 86 [(2,86),(12,88)] [(86,2),(88,2)] [(2,0,[(5,.one .slice)]),(3,6,[(5,.one .slice),(8,.one .slice),(10,.one (.int .i64)),(86,.one .slice),(87,.one .bool)]),(0,6,[(38,.one .bool),(86,.one .slice),(87,.one .bool)]),(0,12,[(66,.one .bool),(86,.one .slice),(87,.one .bool),(88,.one .slice),(89,.one .bool)]),(1,13,[(8,.one .slice),(86,.one .slice),(87,.one .bool),(88,.one .slice),(89,.one .bool)])] f114
def Sh.iO(p:Int):PR:=λR w=>
bnd (wu (p-1)) λn=>
Jn [.int .u64] (λJ0=>
Lp [.int .u64] (λ(p1:Int) w1 C0=>
cl Pg F.jT [.int .u64 p1] w1 [.one .bool] λ(ok:Bool) w2=>
cond (!ok) (
bnd (wu (p1-1)) λn1=>
C0 n1 w2) (
J0 p1 w2)) n w) λ(p2:Int) w3=>
R (.int .u64 p2) w3
theorem Ct.iO:CG (Sh.iO p) F.iO [.int .u64 p] [.one (.int .u64)]:=cod 11 [] [] [(2,0,[(0,.one (.int .u64))]),(3,2,[(0,.one (.int .u64))])] f116
def Sh.cR(e0:Option Addr)(a:Sl)(b:Sl)(p:Int):PR:=λR w=>
cl Pg F.fX [a.v,.int .u64 p] w [.one .slice,.one (.int .i64)] λ(s:Sl)(_:Int) w1=>
cl Pg F.fX [b.v,.int .u64 p] w1 [.one .slice,.one (.int .i64)] λ(s1:Sl)(_:Int) w2=>
nck e0 λa1=>
ldc (.ptr) w2 a1 λ(v:OA)=>
ch 14 w2 v λ(v15:OA)=>
nck v15 λa17=>
tbl w2 a17 λ(v16:Int)(v17:Int)(v18:Int)(v19:Int)(v20:Int)(v21:Int)(v22:Int)(v23:Int)(v24:Int)(v25:Int)(v26:Int)=>
cl Pg F.kl [.agg #[.int .i64 v16,.int .i64 v17,.int .i64 v18,.int .i64 v19,.int .i64 v20,.int .i64 v21,.int .i64 v22,.int .i64 v23,.int .i64 v24,.int .i64 v25,.int .i64 v26],.int .u64 p] w2 [.one .ptr,.one (.int .i64)] λ(p1:OA)(r2:Int) w3=>
cond ((r2:Int) != 0) (
R (.slice none 0 0) w3) (
cl Pg F.fu [.pointer p1,s.v,s1.v] w3 [.one .slice] λ(s2:Sl) w4=>
nck e0 λa18=>
ldc (.ptr) w4.drew a18 λ(v27:OA)=>
nck v27 λa19=>
ldc (.ptr) w4.drew a19 λ(v28:OA)=>
nck v28 λa20=>
ldc (.ptr) w4.drew a20 λ(v29:OA)=>
nck v29 λa21=>
ldc (.ptr) w4.drew a21 λ(v30:OA)=>
nck v30 λa22=>
ldc (.ptr) w4.drew a22 λ(v31:OA)=>
nck v31 λa23=>
ldc (.ptr) w4.drew a23 λ(v32:OA)=>
nck v32 λa24=>
ldc (.ptr) w4.drew a24 λ(v33:OA)=>
nck v33 λa25=>
ldc (.ptr) w4.drew a25 λ(v34:OA)=>
nck v34 λa26=>
ldc (.ptr) w4.drew a26 λ(v35:OA)=>
nck v35 λa27=>
ldc (.ptr) w4.drew a27 λ(v36:OA)=>
nck v36 λa28=>
ldc (.ptr) w4.drew a28 λ(v37:OA)=>
nck v37 λa29=>
ldc (.ptr) w4.drew a29 λ(v38:OA)=>
nck v38 λa30=>
ldc (.ptr) w4.drew a30 λ(v39:OA)=>
nck v39 λa31=>
ldc (.ptr) w4.drew a31 λ(v40:OA)=>
nck v40 λa32=>
ldc (.ptr) w4.drew a32 λ(v41:OA)=>
nck v41 λa33=>
ldc (.ptr) w4.drew a33 λ(v42:OA)=>
nck v42 λa34=>
nck p1 λa35=>
ldc (.ptr) w4.drew (a35.add 1) λ(v43:OA)=>
nck v43 λa36=>
ldc (.ptr) w4.drew a36 λ(v44:OA)=>
nck v44 λa37=>
ldc (.ptr) w4.drew a37 λ(v45:OA)=>
nck v45 λa38=>
ldc (.ptr) w4.drew a38 λ(v46:OA)=>
nck v46 λa39=>
ldc (.ptr) w4.drew a39 λ(v47:OA)=>
nck v47 λa40=>
ldc (.ptr) w4.drew a40 λ(v48:OA)=>
nck v48 λa41=>
ldc (.ptr) w4.drew a41 λ(v49:OA)=>
nck v49 λa42=>
ldc (.ptr) w4.drew a42 λ(v50:OA)=>
nck v50 λa43=>
ldc (.ptr) w4.drew a43 λ(v51:OA)=>
nck v51 λa44=>
ldc (.ptr) w4.drew a44 λ(v52:OA)=>
nck v52 λa45=>
ldc (.ptr) w4.drew a45 λ(v53:OA)=>
nck v53 λa46=>
ldc (.ptr) w4.drew a46 λ(v54:OA)=>
nck v54 λa47=>
ldc (.ptr) w4.drew a47 λ(v55:OA)=>
nck v55 λa48=>
ldc (.ptr) w4.drew a48 λ(v56:OA)=>
nck v56 λa49=>
ldc (.ptr) w4.drew a49 λ(v57:OA)=>
nck v57 λa50=>
cl Pg F.eG [.pointer (some a50)] w4.drew [.one (.int .i64)] λ(r3:Int) w5=>
hld w5 [(a49,.pointer v57),(a48,.pointer v56),(a47,.pointer v55),(a46,.pointer v54),(a45,.pointer v53),(a44,.pointer v52),(a43,.pointer v51),(a42,.pointer v50),(a41,.pointer v49),(a40,.pointer v48),(a39,.pointer v47),(a38,.pointer v46),(a37,.pointer v45),(a36,.pointer v44),((a35.add 1),.pointer v43),(a33,.pointer v42),(a32,.pointer v41),(a31,.pointer v40),(a30,.pointer v39),(a29,.pointer v38),(a28,.pointer v37),(a27,.pointer v36),(a26,.pointer v35),(a25,.pointer v34),(a24,.pointer v33),(a23,.pointer v32),(a22,.pointer v31),(a21,.pointer v30),(a20,.pointer v29),(a19,.pointer v28),(a18,.pointer v27)] <|
cl Pg F.aS [.pointer (some a34),.int .i64 r3] w5 [.one (.int .i64)] λ(_:Int) w6=>
hld w6 [(a49,.pointer v57),(a48,.pointer v56),(a47,.pointer v55),(a46,.pointer v54),(a45,.pointer v53),(a44,.pointer v52),(a43,.pointer v51),(a42,.pointer v50),(a41,.pointer v49),(a40,.pointer v48),(a39,.pointer v47),(a38,.pointer v46),(a37,.pointer v45),(a36,.pointer v44),((a35.add 1),.pointer v43),(a33,.pointer v42),(a32,.pointer v41),(a31,.pointer v40),(a30,.pointer v39),(a29,.pointer v38),(a28,.pointer v37),(a27,.pointer v36),(a26,.pointer v35),(a25,.pointer v34),(a24,.pointer v33),(a23,.pointer v32),(a22,.pointer v31),(a21,.pointer v30),(a20,.pointer v29),(a19,.pointer v28),(a18,.pointer v27)] <|
R (s2.v) w6)
theorem Ct.cR:CG (Sh.cR e0 a b p) F.cR [.pointer e0,a.v,b.v,.int .u64 p] [.one .slice]:=cod 193 [] [] [] f117
def Sh.eg(e0:Option Addr)(out:Sl)(m:Sl)(l:Sl)(p:Int):PR:=λR w=>
cl Pg F.dx [m.v,.int .u64 p] w [.one .slice,.one (.int .u64),.one (.int .i64)] λ(_:Sl)(r:Int)(_:Int) w1=>
nck e0 λa=>
ldc (.ptr) w1.drew a λ(v:OA)=>
nck v λa1=>
ldc (.ptr) w1.drew a1 λ(v1:OA)=>
cl Pg F.aX [.int .u64 r] w1.drew [.one .slice] λ(s1:Sl) w2=>
hld w2 [(a1,.pointer v1),(a,.pointer v)] <|
cl Pg F.aX [.int .u64 p] w2 [.one .slice] λ(s2:Sl) w3=>
hld w3 [(a1,.pointer v1),(a,.pointer v)] <|
cl Pg F.cA [.pointer v1,s1.v,s2.v] w3 [.one .slice,.one (.int .i64)] λ(s3:Sl)(_:Int) w4=>
hld w4 [(a,.pointer v)] <|
Jn [] (λJ0=>
Lp [.int .i64] (λ(x:Int) w5 C0=>
cond (decide ((x:Int)<(out.n:Int))) (
Jn [.int .u64] (λJ1=>
cond (decide ((x:Int)<(l.n:Int))) (
ixa l x 1 λa2=>
ldc (.int .u64) w5 a2 λ(v2:Int)=>
J1 v2 w5) (
J1 0 w5)) λ(r3:Int) w6=>
ixa out x 2 λa3=>
ldc (.slice) w6 a3 λ(v3:Sl)=>
cl Pg F.dx [v3.v,.int .u64 p] w6 [.one .slice,.one (.int .u64),.one (.int .i64)] λ(_:Sl)(r4:Int)(_:Int) w7=>
Jn [.int .u64] (λJ2=>
cond (decide ((r3:Int)<r4)) (
bnd (wu (r3+p)) λn=>
J2 n w7) (
J2 r3 w7)) λ(r6:Int) w8=>
bnd (wu (r6-r4)) λn1=>
cl Pg F.cN [s3.v,.int .u64 n1] w8 [.one .slice] λ(s5:Sl) w9=>
cl Pg F.dx [s5.v,.int .u64 p] w9 [.one .slice,.one (.int .u64),.one (.int .i64)] λ(_:Sl)(r7:Int)(_:Int) w10=>
ixa out x 2 λa4=>
ldc (.slice) w10 a4 λ(v4:Sl)=>
cl Pg F.fD [v4.v,m.v,.int .u64 r7] w10 [.one .slice] λ(s7:Sl) w11=>
ixa out x 2 λa5=>
stc w11 a5 s7.v λw12=>
bnd (wi (x+1)) λn2=>
C0 n2 w12) (
J0 w5)) 0 w4) fun  w13=>
R (.tuple #[]) w13
theorem Ct.eg{out:Sl}{m:Sl}{l:Sl}:CG (Sh.eg e0 out m l p) F.eg [.pointer e0,out.v,m.v,l.v,.int .u64 p] []:=cod 99 [] [] [(2,0,[]),(3,3,[(47,.one (.int .i64))]),(1,7,[(16,.one (.int .u64))]),(1,10,[(16,.one (.int .u64))])] f118
def Sh.ik(a0:Sl)(a1:Bool)(n:Int):PR:=λR w=>
nwv w λw1=>
nwv w1 λw2=>
Jn [.slice,.bool,.slice,.bool] (λJ0=>
Lp [.int .i64,.slice,.bool,.slice,.bool] (λ(n1:Int)(x:Sl)(a2:Bool)(x1:Sl)(x2:Bool) w3 C0=>
cond (decide ((n1:Int)>0)) (
bnd (if (1048576:Int)<n1 then 1048576 else n1) λn2=>
cl Pg F.bV [x.v,.int .i64 n2] w3 [.one .slice] λ(s:Sl) w4=>
bnd (wi (n1-n2)) λn3=>
C0 n3 s a2 x1 x2 w4) (
J0 x a2 x1 x2 w3)) n a0 a1 Sl.nil false w2) λ(x3:Sl)(a3:Bool)(_:Sl)(_:Bool) w5=>
nwv w5 λw6=>
R (.agg #[x3.v,.bool a3]) w6
theorem Ct.ik:CG (Sh.ik a0 a1 n) F.ik [.agg #[a0.v,.bool a1],.int .i64 n] [.agg [.slice,.bool]]:=cod 23 [(2,23),(4,25)] [(23,2),(25,2)] [(2,0,[(5,.one .slice),(24,.one .bool),(25,.one .slice),(26,.one .bool)]),(3,2,[(1,.one (.int .i64)),(5,.one .slice),(24,.one .bool),(25,.one .slice),(26,.one .bool)])] f140
def Sh.iN(a:Sl)(from0:Int)(n:Int):PR:=λR w=>
d9 .i64 from0 64 λn1=>
cond (decide ((n1:Int)≥(a.n:Int))) (
R (.slice none 0 0) w) (
d9 .i64 n 64 λn2=>
bnd (wi (n1+n2)) λn3=>
bnd (wi (n3+2)) λn4=>
bnd (if (n4:Int)<(a.n:Int) then n4 else (a.n:Int)) λn5=>
slc a n1 n5 1 λs=>
dV from0 64 λn6=>
cl Pg F.bU [s.v,.int .i64 n6] w [.one .slice] λ(s1:Sl) w1=>
cl Pg F.kr [s1.v,.int .i64 n] w1 [.one .slice] λ(s2:Sl) w2=>
R (s2.v) w2)
theorem Ct.iN{from0:Int}:CG (Sh.iN a from0 n) F.iN [a.v,.int .i64 from0,.int .i64 n] [.one .slice]:=cod 32 [] [] [] f141
end
end Go.Proofs.YtpbimnlggalnfaaGreatDoor.Zg
