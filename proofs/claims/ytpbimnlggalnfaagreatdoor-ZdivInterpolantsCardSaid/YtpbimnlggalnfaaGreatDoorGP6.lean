/- A part of the proofs of this seat's laws. -/
import Derived.Test.YtpbimnlggalnfaaGreatDoorGC
set_option linter.unusedVariables false
set_option linter.unusedSimpArgs false
set_option linter.unnecessarySimpa false
namespace Go.Proofs.YtpbimnlggalnfaaGreatDoor.Zg
open Go.RowKit
section
set_option maxRecDepth 100000
open Go.Proofs.Tryz
variable {a b c0:Sl} {w:TW} {X:Nat→Prop} {K:KT [.one .slice]}
def Sh.ai(a:Sl)(c0:Sl)(c1:Bool)(R:Value→TW→Prop)(w:TW):Prop:=
nwv w λw1=>
Jn [.slice] (λJ0=>
Lp [.slice,.int .i64,.slice,.bool] (λ(out:Sl)(i:Int)(c2:Sl)(c3:Bool) w2 C0=>
cond (decide ((i:Int)<(a.n:Int))) (
ixa a i 2 λa1=>
ldc (.slice) w2.drew (a1.add 0) λ(v:Sl)=>
ldc (.bool) w2.drew (a1.add 1) λ(v1:Bool)=>
cl Pg F.an [.agg #[v.v,.bool v1],.agg #[c2.v,.bool c3]] w2.drew [.agg [.slice,.bool]] λ(r:Sl)(r1:Bool) w3=>
nwb w3 [r.v,.bool r1] T.ae λb w4=>
apd w4 T.ae 2 32 out ⟨(some ⟨b,0,none⟩),1,1⟩ λs w5=>
bnd (wi (i+1)) λn=>
C0 s n c2 c3 w5) (
J0 out w2)) Sl.nil 0 c0 c1 w1) λ(out1:Sl) w6=>
cl Pg F.aq [out1.v] w6 [.one .slice] λ(s1:Sl) w7=>
R (s1.v) w7
theorem Ct.ai{c1:Bool}(h:Sh.ai a c0 c1 (Rt X [.one .slice] K w) w.here):Ct Pg F.ai [a.v,.agg #[c0.v,.bool c1]] w X [.one .slice] K:=
 cod (Sh.ai a c0 c1) 24 [(3,24)] [(24,2)] [(2,0,[(5,.one .slice)]),(3,3,[(5,.one .slice),(6,.one (.int .i64)),(24,.one .slice),(25,.one .bool)])] f11 h
def Sh.cj(a:Sl)(R:Value→TW→Prop)(w:TW):Prop:=
Jn [.slice] (λJ0=>
Lp [.slice,.int .i64] (λ(out:Sl)(i:Int) w1 C0=>
cond (decide ((i:Int)<(a.n:Int))) (
ixa a i 2 λa1=>
ldc (.slice) w1 (a1.add 0) λ(v:Sl)=>
ldc (.bool) w1 (a1.add 1) λ(v1:Bool)=>
cl Pg F.bP [.agg #[v.v,.bool v1]] w1 [.agg [.slice,.bool]] λ(r:Sl)(r1:Bool) w2=>
nwb w2 [r.v,.bool r1] T.ah λb w3=>
apd w3 T.ah 2 32 out ⟨(some ⟨b,0,none⟩),1,1⟩ λs w4=>
bnd (wi (i+1)) λn=>
C0 s n w4) (
J0 out w1)) Sl.nil 0 w) λ(out1:Sl) w5=>
R (out1.v) w5
theorem Ct.cj(h:Sh.cj a (Rt X [.one .slice] K w) w.here):Ct Pg F.cj [a.v] w X [.one .slice] K:=
 cod (Sh.cj a) 20 [] [] [(2,0,[(3,.one .slice)]),(3,3,[(3,.one .slice),(4,.one (.int .i64))])] f14 h
def Sh.ay(a:Sl)(R:Value→TW→Prop)(w:TW):Prop:=
Jn [.slice] (λJ0=>
Lp [.slice,.int .i64] (λ(out:Sl)(i:Int) w1 C0=>
cond (decide ((i:Int)<(a.n:Int))) (
ixa a i 2 λa1=>
ldc (.slice) w1 a1 λ(v:Sl)=>
cl Pg F.cq [out.v,v.v] w1 [.one .slice] λ(s:Sl) w2=>
bnd (wi (i+1)) λn=>
C0 s n w2) (
J0 out w1)) Sl.nil 0 w) λ(out1:Sl) w3=>
R (out1.v) w3
theorem Ct.ay(h:Sh.ay a (Rt X [.one .slice] K w) w.here):Ct Pg F.ay [a.v] w X [.one .slice] K:=
 cod (Sh.ay a) 19 [] [] [(2,0,[(3,.one .slice)]),(3,3,[(3,.one .slice),(4,.one (.int .i64))])] f17 h
def Sh.aH(a:Sl)(R:Value→TW→Prop)(w:TW):Prop:=
nwv w λw1=>
cond (((a.n:Int):Int) == 0) (
nwv w1 λw2=>
R (.tuple #[.agg #[.slice none 0 0,.bool false],.slice none 0 0]) w2) (
cl Pg F.ay [a.v] w1 [.one .slice] λ(s:Sl) w3=>
cl Pg F.cN [s.v] w3 [.agg [.slice,.bool]] λ(r:Sl)(r1:Bool) w4=>
nwv w4 λw5=>
nwv w5 λw6=>
bnd (wi ((a.n:Int)-1)) λn=>
ixa a n 2 λa1=>
ldc (.bool) w6 (a1.add 1) λ(v:Bool)=>
Jn [.slice,.bool,.slice,.bool] (λJ0=>
cond v (
cl Pg F.aL [.agg #[r.v,.bool r1]] w6 [.agg [.slice,.bool]] λ(r2:Sl)(r3:Bool) w7=>
nwv w7 λw8=>
J0 Sl.nil false r2 r3 w8) (
J0 Sl.nil false r r1 w6)) λ(_:Sl)(_:Bool)(c:Sl)(c1:Bool) w9=>
cl Pg F.cD [a.v,.agg #[c.v,.bool c1]] w9 [.one .slice,.one .bool] λ(s1:Sl)(_:Bool) w10=>
nwv w10 λw11=>
R (.tuple #[.agg #[c.v,.bool c1],s1.v]) w11)
theorem Ct.aH{K:KT [.agg [.slice,.bool],.one .slice]}(h:Sh.aH a (Rt X [.agg [.slice,.bool],.one .slice] K w) w.here):Ct Pg F.aH [a.v] w X [.agg [.slice,.bool],.one .slice] K:=
 cod (Sh.aH a) 31 [(2,31),(4,33)] [(31,2),(33,2)] [(1,5,[(31,.one .slice),(32,.one .bool),(33,.one .slice),(34,.one .bool)])] f19 h
def Sh.aT(a:Sl)(b:Sl)(R:Value→TW→Prop)(w:TW):Prop:=
cl Pg F.cj [a.v] w [.one .slice] λ(s:Sl) w1=>
cond (((s.n:Int):Int) != (b.n:Int)) (
R (.bool false) w1) (
Jn [] (λJ0=>
Lp [.int .i64] (λ(i:Int) w2 C0=>
cond (decide ((i:Int)<(s.n:Int))) (
Jn [.bool] (λJ1=>
ixa s i 2 λa1=>
ldc (.bool) w2.drew (a1.add 1) λ(v:Bool)=>
ixa b i 2 λa2=>
ldc (.bool) w2.drew (a2.add 1) λ(v1:Bool)=>
cond (!(v == v1)) (
J1 true w2.drew) (
ixa a i 2 λa3=>
ldc (.slice) w2.drew a3 λ(v2:Sl)=>
ixa b i 2 λa4=>
ldc (.slice) w2.drew a4 λ(v3:Sl)=>
cl Pg F.bi [v2.v,v3.v] w2.drew [.one .bool] λ(ok:Bool) w3=>
hld w3 [((a2.add 1),.bool v1),((a1.add 1),.bool v)] <|
J1 (!ok) w3)) λ(x:Bool) w4=>
cond x (
R (.bool false) w4) (
bnd (wi (i+1)) λn=>
C0 n w4)) (
J0 w2)) 0 w1) fun  w5=>
R (.bool true) w5)
theorem Ct.aT{K:KT [.one .bool]}(h:Sh.aT a b (Rt X [.one .bool] K w) w.here):Ct Pg F.aT [a.v,b.v] w X [.one .bool] K:=
 cod (Sh.aT a b) 45 [] [] [(2,0,[]),(3,5,[(6,.one (.int .i64))]),(0,7,[(44,.one .bool)])] f24 h
def Sh.cE(a:Sl)(R:Value→TW→Prop)(w:TW):Prop:=
Jn [.slice] (λJ0=>
Lp [.slice,.int .i64] (λ(out:Sl)(i:Int) w1 C0=>
cond (decide ((i:Int)<(a.n:Int))) (
ixa a i 2 λa1=>
ldc (.slice) w1 (a1.add 0) λ(v:Sl)=>
ldc (.bool) w1 (a1.add 1) λ(v1:Bool)=>
cl Pg F.bf [.agg #[v.v,.bool v1]] w1 [.agg [.slice,.bool]] λ(r:Sl)(r1:Bool) w2=>
nwb w2 [r.v,.bool r1] T.ae λb w3=>
apd w3 T.ae 2 32 out ⟨(some ⟨b,0,none⟩),1,1⟩ λs w4=>
bnd (wi (i+1)) λn=>
C0 s n w4) (
J0 out w1)) Sl.nil 0 w) λ(out1:Sl) w5=>
cl Pg F.aq [out1.v] w5 [.one .slice] λ(s1:Sl) w6=>
R (s1.v) w6
theorem Ct.cE(h:Sh.cE a (Rt X [.one .slice] K w) w.here):Ct Pg F.cE [a.v] w X [.one .slice] K:=
 cod (Sh.cE a) 21 [] [] [(2,0,[(3,.one .slice)]),(3,3,[(3,.one .slice),(4,.one (.int .i64))])] f27 h
def Sh.dS(a:Sl)(x0:Sl)(x1:Bool)(R:Value→TW→Prop)(w:TW):Prop:=
nwv w λw1=>
nwv w1 λw2=>
nwv w2 λw3=>
bnd (wi ((a.n:Int)-1)) λn=>
Jn [.slice,.bool,.slice,.bool] (λJ0=>
Lp [.int .i64,.slice,.bool,.slice,.bool,.slice,.bool] (λ(i:Int)(x2:Sl)(x3:Bool)(x4:Sl)(x5:Bool)(out:Sl)(out1:Bool) w4 C0=>
cond (decide ((i:Int)≥0)) (
ixa a i 2 λa1=>
ldc (.slice) w4.drew (a1.add 0) λ(v:Sl)=>
ldc (.bool) w4.drew (a1.add 1) λ(v1:Bool)=>
cl Pg F.an [.agg #[out.v,.bool out1],.agg #[x2.v,.bool x3]] w4.drew [.agg [.slice,.bool]] λ(r:Sl)(r1:Bool) w5=>
hld w5 [(a1.add 0,v.v),(a1.add 1,.bool v1)] <|
cl Pg F.bR [.agg #[r.v,.bool r1],.agg #[v.v,.bool v1]] w5 [.agg [.slice,.bool]] λ(r2:Sl)(r3:Bool) w6=>
nwv w6 λw7=>
bnd (wi (i-1)) λn1=>
C0 n1 x2 x3 x4 x5 r2 r3 w7) (
J0 x4 x5 out out1 w4)) n x0 x1 Sl.nil false Sl.nil false w3) λ(_:Sl)(_:Bool)(out2:Sl)(out3:Bool) w8=>
nwv w8 λw9=>
R (.agg #[out2.v,.bool out3]) w9
theorem Ct.dS{x0:Sl}{x1:Bool}{K:KT [.agg [.slice,.bool]]}(h:Sh.dS a x0 x1 (Rt X [.agg [.slice,.bool]] K w) w.here):Ct Pg F.dS [a.v,.agg #[x0.v,.bool x1]] w X [.agg [.slice,.bool]] K:=
 cod (Sh.dS a x0 x1) 23 [(3,23),(4,25),(5,27)] [(23,2),(25,2),(27,2)] [(2,0,[(25,.one .slice),(26,.one .bool),(27,.one .slice),(28,.one .bool)]),(3,3,[(6,.one (.int .i64)),(23,.one .slice),(24,.one .bool),(25,.one .slice),(26,.one .bool),(27,.one .slice),(28,.one .bool)])] f28 h
def Sh.bp(x:Sl)(y:Sl)(R:Value→TW→Prop)(w:TW):Prop:=
cond (((x.n:Int):Int) != (y.n:Int)) (
R (.tuple #[.slice none 0 0,.int .i64 1]) w) (
Jn [.slice,.slice] (λJ0=>
Lp [.slice,.slice,.int .i64] (λ(xs:Sl)(ys:Sl)(i:Int) w1 C0=>
cond (decide ((i:Int)<(x.n:Int))) (
ixa x i 2 λa=>
ldc (.slice) w1 (a.add 0) λ(v:Sl)=>
ldc (.bool) w1 (a.add 1) λ(v1:Bool)=>
cl Pg F.bf [.agg #[v.v,.bool v1]] w1 [.agg [.slice,.bool]] λ(r:Sl)(r1:Bool) w2=>
nwb w2 [r.v,.bool r1] T.ae λb w3=>
apd w3 T.ae 2 32 xs ⟨(some ⟨b,0,none⟩),1,1⟩ λs w4=>
ixa y i 2 λa1=>
ldc (.slice) w4 (a1.add 0) λ(v2:Sl)=>
ldc (.bool) w4 (a1.add 1) λ(v3:Bool)=>
cl Pg F.bf [.agg #[v2.v,.bool v3]] w4 [.agg [.slice,.bool]] λ(r2:Sl)(r3:Bool) w5=>
nwb w5 [r2.v,.bool r3] T.ae λb1 w6=>
apd w6 T.ae 2 32 ys ⟨(some ⟨b1,0,none⟩),1,1⟩ λs1 w7=>
Jn [] (λJ1=>
Lp [.int .i64] (λ(k:Int) w8 C1=>
cond (decide ((k:Int)<i)) (
ixa s i 2 λa2=>
ldc (.slice) w8.drew (a2.add 0) λ(v4:Sl)=>
ldc (.bool) w8.drew (a2.add 1) λ(v5:Bool)=>
ixa s k 2 λa3=>
ldc (.slice) w8.drew (a3.add 0) λ(v6:Sl)=>
ldc (.bool) w8.drew (a3.add 1) λ(v7:Bool)=>
cl Pg F.dw [.agg #[v4.v,.bool v5],.agg #[v6.v,.bool v7]] w8.drew [.one (.int .i64)] λ(r4:Int) w9=>
cond ((r4:Int) == 0) (
R (.tuple #[.slice none 0 0,.int .i64 6]) w9) (
bnd (wi (k+1)) λn=>
C1 n w9)) (
J1 w8)) 0 w7) fun  w10=>
bnd (wi (i+1)) λn1=>
C0 s s1 n1 w10) (
J0 xs ys w1)) Sl.nil Sl.nil 0 w) λ(xs1:Sl)(ys1:Sl) w11=>
cl Pg F.ao [.int .i64 1] w11 [.agg [.slice,.bool]] λ(r5:Sl)(r6:Bool) w12=>
nwv w12 λw13=>
nwv w13 λw14=>
Jn [.slice,.slice,.bool] (λJ2=>
Lp [.slice,.int .i64,.slice,.bool] (λ(sum:Sl)(i1:Int)(den:Sl)(den1:Bool) w15 C2=>
cond (decide ((i1:Int)<(xs1.n:Int))) (
ixa ys1 i1 2 λa4=>
ldc (.slice) w15.drew (a4.add 0) λ(v8:Sl)=>
ldc (.bool) w15.drew (a4.add 1) λ(v9:Bool)=>
(nwb w15.drew [v8.v,.bool v9] T.ae λb2 w16=>
(cl Pg F.ao [.int .i64 1] w16 [.agg [.slice,.bool]] λ(r7:Sl)(r8:Bool) w17=>
nwv w17 λw18=>
nwv w18 λw19=>
cl Pg F.aq [.slice (some ⟨b2,0,none⟩) 1 1] w19 [.one .slice] λ(s2:Sl) w20=>
Jn [.slice,.slice,.bool,.slice,.bool] (λJ3=>
Lp [.slice,.int .i64,.slice,.bool,.slice,.bool] (λ(num:Sl)(k1:Int)(den2:Sl)(den3:Bool)(d:Sl)(d1:Bool) w21 C3=>
cond (decide ((k1:Int)<(xs1.n:Int))) (
Jn [.slice,.slice,.bool,.slice,.bool] (λJ4=>
cond ((k1:Int) != i1) (
ixa xs1 k1 2 λa5=>
ldc (.slice) w21 (a5.add 0) λ(v10:Sl)=>
ldc (.bool) w21 (a5.add 1) λ(v11:Bool)=>
cl Pg F.aL [.agg #[v10.v,.bool v11]] w21 [.agg [.slice,.bool]] λ(r9:Sl)(r10:Bool) w22=>
cl Pg F.ao [.int .i64 1] w22 [.agg [.slice,.bool]] λ(r11:Sl)(r12:Bool) w23=>
nwb w23 [r9.v,.bool r10,r11.v,.bool r12] T.ae λb3 w24=>
cl Pg F.aJ [num.v,.slice (some ⟨b3,0,none⟩) 2 2] w24 [.one .slice] λ(s3:Sl) w25=>
ixa xs1 i1 2 λa6=>
ldc (.slice) w25.drew (a6.add 0) λ(v12:Sl)=>
ldc (.bool) w25.drew (a6.add 1) λ(v13:Bool)=>
ixa xs1 k1 2 λa7=>
ldc (.slice) w25.drew (a7.add 0) λ(v14:Sl)=>
ldc (.bool) w25.drew (a7.add 1) λ(v15:Bool)=>
cl Pg F.aK [.agg #[v12.v,.bool v13],.agg #[v14.v,.bool v15]] w25.drew [.agg [.slice,.bool]] λ(r13:Sl)(r14:Bool) w26=>
cl Pg F.an [.agg #[d.v,.bool d1],.agg #[r13.v,.bool r14]] w26 [.agg [.slice,.bool]] λ(r15:Sl)(r16:Bool) w27=>
nwv w27 λw28=>
J4 s3 den2 den3 r15 r16 w28) (
J4 num den2 den3 d d1 w21)) λ(num1:Sl)(den4:Sl)(den5:Bool)(d2:Sl)(d3:Bool) w29=>
bnd (wi (k1+1)) λn2=>
C3 num1 n2 den4 den5 d2 d3 w29) (
J3 num den2 den3 d d1 w21)) s2 0 den den1 r7 r8 w20) λ(num2:Sl)(den6:Sl)(den7:Bool)(d4:Sl)(d5:Bool) w30=>
cl Pg F.ai [sum.v,.agg #[d4.v,.bool d5]] w30.drew [.one .slice] λ(s4:Sl) w31=>
cl Pg F.ai [num2.v,.agg #[den6.v,.bool den7]] w31 [.one .slice] λ(s5:Sl) w32=>
cl Pg F.aE [s4.v,s5.v] w32 [.one .slice] λ(s6:Sl) w33=>
cl Pg F.an [.agg #[den6.v,.bool den7],.agg #[d4.v,.bool d5]] w33 [.agg [.slice,.bool]] λ(r17:Sl)(r18:Bool) w34=>
nwv w34 λw35=>
bnd (wi (i1+1)) λn3=>
C2 s6 n3 r17 r18 w35)∧
(nwv w16 λw36=>
cl Pg F.ao [.int .i64 1] w36 [.agg [.slice,.bool]] λ(r19:Sl)(r20:Bool) w37=>
nwv w37 λw38=>
cl Pg F.aq [.slice (some ⟨b2,0,none⟩) 1 1] w38 [.one .slice] λ(s7:Sl) w39=>
Jn [.slice,.slice,.bool,.slice,.bool] (λJ5=>
Lp [.slice,.int .i64,.slice,.bool,.slice,.bool] (λ(num3:Sl)(k2:Int)(den8:Sl)(den9:Bool)(d6:Sl)(d7:Bool) w40 C4=>
cond (decide ((k2:Int)<(xs1.n:Int))) (
Jn [.slice,.slice,.bool,.slice,.bool] (λJ6=>
cond ((k2:Int) != i1) (
ixa xs1 k2 2 λa8=>
ldc (.slice) w40 (a8.add 0) λ(v16:Sl)=>
ldc (.bool) w40 (a8.add 1) λ(v17:Bool)=>
cl Pg F.aL [.agg #[v16.v,.bool v17]] w40 [.agg [.slice,.bool]] λ(r21:Sl)(r22:Bool) w41=>
cl Pg F.ao [.int .i64 1] w41 [.agg [.slice,.bool]] λ(r23:Sl)(r24:Bool) w42=>
nwb w42 [r21.v,.bool r22,r23.v,.bool r24] T.ae λb4 w43=>
cl Pg F.aJ [num3.v,.slice (some ⟨b4,0,none⟩) 2 2] w43 [.one .slice] λ(s8:Sl) w44=>
ixa xs1 i1 2 λa9=>
ldc (.slice) w44.drew (a9.add 0) λ(v18:Sl)=>
ldc (.bool) w44.drew (a9.add 1) λ(v19:Bool)=>
ixa xs1 k2 2 λa10=>
ldc (.slice) w44.drew (a10.add 0) λ(v20:Sl)=>
ldc (.bool) w44.drew (a10.add 1) λ(v21:Bool)=>
cl Pg F.aK [.agg #[v18.v,.bool v19],.agg #[v20.v,.bool v21]] w44.drew [.agg [.slice,.bool]] λ(r25:Sl)(r26:Bool) w45=>
cl Pg F.an [.agg #[d6.v,.bool d7],.agg #[r25.v,.bool r26]] w45 [.agg [.slice,.bool]] λ(r27:Sl)(r28:Bool) w46=>
nwv w46 λw47=>
J6 s8 den8 den9 r27 r28 w47) (
J6 num3 den8 den9 d6 d7 w40)) λ(num4:Sl)(den10:Sl)(den11:Bool)(d8:Sl)(d9:Bool) w48=>
bnd (wi (k2+1)) λn4=>
C4 num4 n4 den10 den11 d8 d9 w48) (
J5 num3 den8 den9 d6 d7 w40)) s7 0 den den1 r19 r20 w39) λ(num5:Sl)(den12:Sl)(den13:Bool)(d10:Sl)(d11:Bool) w49=>
cl Pg F.ai [sum.v,.agg #[d10.v,.bool d11]] w49.drew [.one .slice] λ(s9:Sl) w50=>
cl Pg F.ai [num5.v,.agg #[den12.v,.bool den13]] w50 [.one .slice] λ(s10:Sl) w51=>
cl Pg F.aE [s9.v,s10.v] w51 [.one .slice] λ(s11:Sl) w52=>
cl Pg F.an [.agg #[den12.v,.bool den13],.agg #[d10.v,.bool d11]] w52 [.agg [.slice,.bool]] λ(r29:Sl)(r30:Bool) w53=>
nwv w53 λw54=>
bnd (wi (i1+1)) λn5=>
C2 s11 n5 r29 r30 w54))∧
(cl Pg F.ao [.int .i64 1] w15.drew [.agg [.slice,.bool]] λ(r31:Sl)(r32:Bool) w55=>
hld w55 [(a4.add 0,v8.v),(a4.add 1,.bool v9)] <|
(nwb w55 [v8.v,.bool v9] T.ae λb5 w56=>
nwv w56 λw57=>
nwv w57 λw58=>
cl Pg F.aq [.slice (some ⟨b5,0,none⟩) 1 1] w58 [.one .slice] λ(s12:Sl) w59=>
Jn [.slice,.slice,.bool,.slice,.bool] (λJ7=>
Lp [.slice,.int .i64,.slice,.bool,.slice,.bool] (λ(num6:Sl)(k3:Int)(den14:Sl)(den15:Bool)(d12:Sl)(d13:Bool) w60 C5=>
cond (decide ((k3:Int)<(xs1.n:Int))) (
Jn [.slice,.slice,.bool,.slice,.bool] (λJ8=>
cond ((k3:Int) != i1) (
ixa xs1 k3 2 λa11=>
ldc (.slice) w60 (a11.add 0) λ(v22:Sl)=>
ldc (.bool) w60 (a11.add 1) λ(v23:Bool)=>
cl Pg F.aL [.agg #[v22.v,.bool v23]] w60 [.agg [.slice,.bool]] λ(r33:Sl)(r34:Bool) w61=>
cl Pg F.ao [.int .i64 1] w61 [.agg [.slice,.bool]] λ(r35:Sl)(r36:Bool) w62=>
nwb w62 [r33.v,.bool r34,r35.v,.bool r36] T.ae λb6 w63=>
cl Pg F.aJ [num6.v,.slice (some ⟨b6,0,none⟩) 2 2] w63 [.one .slice] λ(s13:Sl) w64=>
ixa xs1 i1 2 λa12=>
ldc (.slice) w64.drew (a12.add 0) λ(v24:Sl)=>
ldc (.bool) w64.drew (a12.add 1) λ(v25:Bool)=>
ixa xs1 k3 2 λa13=>
ldc (.slice) w64.drew (a13.add 0) λ(v26:Sl)=>
ldc (.bool) w64.drew (a13.add 1) λ(v27:Bool)=>
cl Pg F.aK [.agg #[v24.v,.bool v25],.agg #[v26.v,.bool v27]] w64.drew [.agg [.slice,.bool]] λ(r37:Sl)(r38:Bool) w65=>
cl Pg F.an [.agg #[d12.v,.bool d13],.agg #[r37.v,.bool r38]] w65 [.agg [.slice,.bool]] λ(r39:Sl)(r40:Bool) w66=>
nwv w66 λw67=>
J8 s13 den14 den15 r39 r40 w67) (
J8 num6 den14 den15 d12 d13 w60)) λ(num7:Sl)(den16:Sl)(den17:Bool)(d14:Sl)(d15:Bool) w68=>
bnd (wi (k3+1)) λn6=>
C5 num7 n6 den16 den17 d14 d15 w68) (
J7 num6 den14 den15 d12 d13 w60)) s12 0 den den1 r31 r32 w59) λ(num8:Sl)(den18:Sl)(den19:Bool)(d16:Sl)(d17:Bool) w69=>
cl Pg F.ai [sum.v,.agg #[d16.v,.bool d17]] w69.drew [.one .slice] λ(s14:Sl) w70=>
cl Pg F.ai [num8.v,.agg #[den18.v,.bool den19]] w70 [.one .slice] λ(s15:Sl) w71=>
cl Pg F.aE [s14.v,s15.v] w71 [.one .slice] λ(s16:Sl) w72=>
cl Pg F.an [.agg #[den18.v,.bool den19],.agg #[d16.v,.bool d17]] w72 [.agg [.slice,.bool]] λ(r41:Sl)(r42:Bool) w73=>
nwv w73 λw74=>
bnd (wi (i1+1)) λn7=>
C2 s16 n7 r41 r42 w74)∧
(nwv w55 λw75=>
hld w75 [(a4.add 0,v8.v),(a4.add 1,.bool v9)] <|
nwb w75 [v8.v,.bool v9] T.ae λb7 w76=>
nwv w76 λw77=>
cl Pg F.aq [.slice (some ⟨b7,0,none⟩) 1 1] w77 [.one .slice] λ(s17:Sl) w78=>
Jn [.slice,.slice,.bool,.slice,.bool] (λJ9=>
Lp [.slice,.int .i64,.slice,.bool,.slice,.bool] (λ(num9:Sl)(k4:Int)(den20:Sl)(den21:Bool)(d18:Sl)(d19:Bool) w79 C6=>
cond (decide ((k4:Int)<(xs1.n:Int))) (
Jn [.slice,.slice,.bool,.slice,.bool] (λJ10=>
cond ((k4:Int) != i1) (
ixa xs1 k4 2 λa14=>
ldc (.slice) w79 (a14.add 0) λ(v28:Sl)=>
ldc (.bool) w79 (a14.add 1) λ(v29:Bool)=>
cl Pg F.aL [.agg #[v28.v,.bool v29]] w79 [.agg [.slice,.bool]] λ(r43:Sl)(r44:Bool) w80=>
cl Pg F.ao [.int .i64 1] w80 [.agg [.slice,.bool]] λ(r45:Sl)(r46:Bool) w81=>
nwb w81 [r43.v,.bool r44,r45.v,.bool r46] T.ae λb8 w82=>
cl Pg F.aJ [num9.v,.slice (some ⟨b8,0,none⟩) 2 2] w82 [.one .slice] λ(s18:Sl) w83=>
ixa xs1 i1 2 λa15=>
ldc (.slice) w83.drew (a15.add 0) λ(v30:Sl)=>
ldc (.bool) w83.drew (a15.add 1) λ(v31:Bool)=>
ixa xs1 k4 2 λa16=>
ldc (.slice) w83.drew (a16.add 0) λ(v32:Sl)=>
ldc (.bool) w83.drew (a16.add 1) λ(v33:Bool)=>
cl Pg F.aK [.agg #[v30.v,.bool v31],.agg #[v32.v,.bool v33]] w83.drew [.agg [.slice,.bool]] λ(r47:Sl)(r48:Bool) w84=>
cl Pg F.an [.agg #[d18.v,.bool d19],.agg #[r47.v,.bool r48]] w84 [.agg [.slice,.bool]] λ(r49:Sl)(r50:Bool) w85=>
nwv w85 λw86=>
J10 s18 den20 den21 r49 r50 w86) (
J10 num9 den20 den21 d18 d19 w79)) λ(num10:Sl)(den22:Sl)(den23:Bool)(d20:Sl)(d21:Bool) w87=>
bnd (wi (k4+1)) λn8=>
C6 num10 n8 den22 den23 d20 d21 w87) (
J9 num9 den20 den21 d18 d19 w79)) s17 0 den den1 r31 r32 w78) λ(num11:Sl)(den24:Sl)(den25:Bool)(d22:Sl)(d23:Bool) w88=>
cl Pg F.ai [sum.v,.agg #[d22.v,.bool d23]] w88.drew [.one .slice] λ(s19:Sl) w89=>
cl Pg F.ai [num11.v,.agg #[den24.v,.bool den25]] w89 [.one .slice] λ(s20:Sl) w90=>
cl Pg F.aE [s19.v,s20.v] w90 [.one .slice] λ(s21:Sl) w91=>
cl Pg F.an [.agg #[den24.v,.bool den25],.agg #[d22.v,.bool d23]] w91 [.agg [.slice,.bool]] λ(r51:Sl)(r52:Bool) w92=>
nwv w92 λw93=>
bnd (wi (i1+1)) λn9=>
C2 s21 n9 r51 r52 w93))∧
(nwv w15.drew λw94=>
hld w94 [(a4.add 0,v8.v),(a4.add 1,.bool v9)] <|
(nwb w94 [v8.v,.bool v9] T.ae λb9 w95=>
cl Pg F.ao [.int .i64 1] w95 [.agg [.slice,.bool]] λ(r53:Sl)(r54:Bool) w96=>
nwv w96 λw97=>
cl Pg F.aq [.slice (some ⟨b9,0,none⟩) 1 1] w97 [.one .slice] λ(s22:Sl) w98=>
Jn [.slice,.slice,.bool,.slice,.bool] (λJ11=>
Lp [.slice,.int .i64,.slice,.bool,.slice,.bool] (λ(num12:Sl)(k5:Int)(den26:Sl)(den27:Bool)(d24:Sl)(d25:Bool) w99 C7=>
cond (decide ((k5:Int)<(xs1.n:Int))) (
Jn [.slice,.slice,.bool,.slice,.bool] (λJ12=>
cond ((k5:Int) != i1) (
ixa xs1 k5 2 λa17=>
ldc (.slice) w99 (a17.add 0) λ(v34:Sl)=>
ldc (.bool) w99 (a17.add 1) λ(v35:Bool)=>
cl Pg F.aL [.agg #[v34.v,.bool v35]] w99 [.agg [.slice,.bool]] λ(r55:Sl)(r56:Bool) w100=>
cl Pg F.ao [.int .i64 1] w100 [.agg [.slice,.bool]] λ(r57:Sl)(r58:Bool) w101=>
nwb w101 [r55.v,.bool r56,r57.v,.bool r58] T.ae λb10 w102=>
cl Pg F.aJ [num12.v,.slice (some ⟨b10,0,none⟩) 2 2] w102 [.one .slice] λ(s23:Sl) w103=>
ixa xs1 i1 2 λa18=>
ldc (.slice) w103.drew (a18.add 0) λ(v36:Sl)=>
ldc (.bool) w103.drew (a18.add 1) λ(v37:Bool)=>
ixa xs1 k5 2 λa19=>
ldc (.slice) w103.drew (a19.add 0) λ(v38:Sl)=>
ldc (.bool) w103.drew (a19.add 1) λ(v39:Bool)=>
cl Pg F.aK [.agg #[v36.v,.bool v37],.agg #[v38.v,.bool v39]] w103.drew [.agg [.slice,.bool]] λ(r59:Sl)(r60:Bool) w104=>
cl Pg F.an [.agg #[d24.v,.bool d25],.agg #[r59.v,.bool r60]] w104 [.agg [.slice,.bool]] λ(r61:Sl)(r62:Bool) w105=>
nwv w105 λw106=>
J12 s23 den26 den27 r61 r62 w106) (
J12 num12 den26 den27 d24 d25 w99)) λ(num13:Sl)(den28:Sl)(den29:Bool)(d26:Sl)(d27:Bool) w107=>
bnd (wi (k5+1)) λn10=>
C7 num13 n10 den28 den29 d26 d27 w107) (
J11 num12 den26 den27 d24 d25 w99)) s22 0 den den1 r53 r54 w98) λ(num14:Sl)(den30:Sl)(den31:Bool)(d28:Sl)(d29:Bool) w108=>
cl Pg F.ai [sum.v,.agg #[d28.v,.bool d29]] w108.drew [.one .slice] λ(s24:Sl) w109=>
cl Pg F.ai [num14.v,.agg #[den30.v,.bool den31]] w109 [.one .slice] λ(s25:Sl) w110=>
cl Pg F.aE [s24.v,s25.v] w110 [.one .slice] λ(s26:Sl) w111=>
cl Pg F.an [.agg #[den30.v,.bool den31],.agg #[d28.v,.bool d29]] w111 [.agg [.slice,.bool]] λ(r63:Sl)(r64:Bool) w112=>
nwv w112 λw113=>
bnd (wi (i1+1)) λn11=>
C2 s26 n11 r63 r64 w113)∧
(cl Pg F.ao [.int .i64 1] w94 [.agg [.slice,.bool]] λ(r65:Sl)(r66:Bool) w114=>
hld w114 [(a4.add 0,v8.v),(a4.add 1,.bool v9)] <|
nwb w114 [v8.v,.bool v9] T.ae λb11 w115=>
nwv w115 λw116=>
cl Pg F.aq [.slice (some ⟨b11,0,none⟩) 1 1] w116 [.one .slice] λ(s27:Sl) w117=>
Jn [.slice,.slice,.bool,.slice,.bool] (λJ13=>
Lp [.slice,.int .i64,.slice,.bool,.slice,.bool] (λ(num15:Sl)(k6:Int)(den32:Sl)(den33:Bool)(d30:Sl)(d31:Bool) w118 C8=>
cond (decide ((k6:Int)<(xs1.n:Int))) (
Jn [.slice,.slice,.bool,.slice,.bool] (λJ14=>
cond ((k6:Int) != i1) (
ixa xs1 k6 2 λa20=>
ldc (.slice) w118 (a20.add 0) λ(v40:Sl)=>
ldc (.bool) w118 (a20.add 1) λ(v41:Bool)=>
cl Pg F.aL [.agg #[v40.v,.bool v41]] w118 [.agg [.slice,.bool]] λ(r67:Sl)(r68:Bool) w119=>
cl Pg F.ao [.int .i64 1] w119 [.agg [.slice,.bool]] λ(r69:Sl)(r70:Bool) w120=>
nwb w120 [r67.v,.bool r68,r69.v,.bool r70] T.ae λb12 w121=>
cl Pg F.aJ [num15.v,.slice (some ⟨b12,0,none⟩) 2 2] w121 [.one .slice] λ(s28:Sl) w122=>
ixa xs1 i1 2 λa21=>
ldc (.slice) w122.drew (a21.add 0) λ(v42:Sl)=>
ldc (.bool) w122.drew (a21.add 1) λ(v43:Bool)=>
ixa xs1 k6 2 λa22=>
ldc (.slice) w122.drew (a22.add 0) λ(v44:Sl)=>
ldc (.bool) w122.drew (a22.add 1) λ(v45:Bool)=>
cl Pg F.aK [.agg #[v42.v,.bool v43],.agg #[v44.v,.bool v45]] w122.drew [.agg [.slice,.bool]] λ(r71:Sl)(r72:Bool) w123=>
cl Pg F.an [.agg #[d30.v,.bool d31],.agg #[r71.v,.bool r72]] w123 [.agg [.slice,.bool]] λ(r73:Sl)(r74:Bool) w124=>
nwv w124 λw125=>
J14 s28 den32 den33 r73 r74 w125) (
J14 num15 den32 den33 d30 d31 w118)) λ(num16:Sl)(den34:Sl)(den35:Bool)(d32:Sl)(d33:Bool) w126=>
bnd (wi (k6+1)) λn12=>
C8 num16 n12 den34 den35 d32 d33 w126) (
J13 num15 den32 den33 d30 d31 w118)) s27 0 den den1 r65 r66 w117) λ(num17:Sl)(den36:Sl)(den37:Bool)(d34:Sl)(d35:Bool) w127=>
cl Pg F.ai [sum.v,.agg #[d34.v,.bool d35]] w127.drew [.one .slice] λ(s29:Sl) w128=>
cl Pg F.ai [num17.v,.agg #[den36.v,.bool den37]] w128 [.one .slice] λ(s30:Sl) w129=>
cl Pg F.aE [s29.v,s30.v] w129 [.one .slice] λ(s31:Sl) w130=>
cl Pg F.an [.agg #[den36.v,.bool den37],.agg #[d34.v,.bool d35]] w130 [.agg [.slice,.bool]] λ(r75:Sl)(r76:Bool) w131=>
nwv w131 λw132=>
bnd (wi (i1+1)) λn13=>
C2 s31 n13 r75 r76 w132))) (
J2 sum den den1 w15)) Sl.nil 0 r5 r6 w14) λ(sum1:Sl)(den38:Sl)(den39:Bool) w133=>
cl Pg F.cD [sum1.v,.agg #[den38.v,.bool den39]] w133 [.one .slice,.one .bool] λ(s32:Sl)(ok:Bool) w134=>
cond (!ok) (
R (.tuple #[.slice none 0 0,.int .i64 7]) w134) (
R (.tuple #[s32.v,.int .i64 0]) w134))
theorem Ct.bp{x:Sl}{y:Sl}{K:KT [.one .slice,.one (.int .i64)]}(h:Sh.bp x y (Rt X [.one .slice,.one (.int .i64)] K w) w.here):Ct Pg F.bp [x.v,y.v] w X [.one .slice,.one (.int .i64)] K:=
 cod (Sh.bp x y) 123 [(11,123),(14,125)] [(123,2),(125,2)] [(2,0,[(6,.one .slice),(7,.one .slice)]),(3,5,[(6,.one .slice),(7,.one .slice),(8,.one (.int .i64))]),(2,2,[]),(3,10,[(9,.one (.int .i64))]),(2,4,[(10,.one .slice),(123,.one .slice),(124,.one .bool)]),(3,17,[(10,.one .slice),(12,.one (.int .i64)),(123,.one .slice),(124,.one .bool)]),(2,6,[(13,.one .slice),(123,.one .slice),(124,.one .bool),(125,.one .slice),(126,.one .bool)]),(3,22,[(13,.one .slice),(15,.one (.int .i64)),(123,.one .slice),(124,.one .bool),(125,.one .slice),(126,.one .bool)]),(1,25,[(13,.one .slice),(123,.one .slice),(124,.one .bool),(125,.one .slice),(126,.one .bool)])] f30 h
def Sh.cy(a:Sl)(b:Sl)(R:Value→TW→Prop)(w:TW):Prop:=
bnd (wi ((a.n:Int)-(b.n:Int))) λn=>
bnd (wi (n+1)) λn1=>
bnd (if (0:Int)>n1 then 0 else n1) λn2=>
bnd (wi ((b.n:Int)-1)) λn3=>
ixa b n3 2 λa1=>
ldc (.slice) w (a1.add 0) λ(v:Sl)=>
ldc (.bool) w (a1.add 1) λ(v1:Bool)=>
nwv w λw1=>
nwv w1 λw2=>
Jn [.slice,.slice] (λJ0=>
Lp [.slice,.slice,.int .i64,.slice,.bool] (λ(q:Sl)(r:Sl)(i:Int)(c:Sl)(c1:Bool) w3 C0=>
cond (decide ((i:Int)<n2)) (
bnd (wi ((a.n:Int)-1)) λn4=>
bnd (wi (n4-i)) λn5=>
cl Pg F.bO [r.v,.int .i64 n5] w3 [.agg [.slice,.bool]] λ(r1:Sl)(r2:Bool) w4=>
nwv w4 λw5=>
nwv w5 λw6=>
bnd (wi (n5-(b.n:Int))) λn6=>
bnd (wi (n6+1)) λn7=>
cl Pg F.ai [r.v,.agg #[c.v,.bool c1]] w6.drew [.one .slice] λ(s:Sl) w7=>
cl Pg F.ai [b.v,.agg #[r1.v,.bool r2]] w7 [.one .slice] λ(s1:Sl) w8=>
cl Pg F.bL [s1.v,.int .i64 n7] w8 [.one .slice] λ(s2:Sl) w9=>
cl Pg F.dt [s.v,s2.v] w9 [.one .slice] λ(s3:Sl) w10=>
bnd (wi (n5-(b.n:Int))) λn8=>
bnd (wi (n8+1)) λn9=>
(cl Pg F.ai [q.v,.agg #[c.v,.bool c1]] w10.drew [.one .slice] λ(s4:Sl) w11=>
nwb w11 [r1.v,.bool r2] T.ae λb1 w12=>
cl Pg F.aq [.slice (some ⟨b1,0,none⟩) 1 1] w12 [.one .slice] λ(s5:Sl) w13=>
cl Pg F.bL [s5.v,.int .i64 n9] w13 [.one .slice] λ(s6:Sl) w14=>
cl Pg F.aE [s4.v,s6.v] w14 [.one .slice] λ(s7:Sl) w15=>
bnd (wi (i+1)) λn10=>
C0 s7 s3 n10 c c1 w15)∧
(nwb w10.drew [r1.v,.bool r2] T.ae λb2 w16=>
cl Pg F.ai [q.v,.agg #[c.v,.bool c1]] w16 [.one .slice] λ(s8:Sl) w17=>
cl Pg F.aq [.slice (some ⟨b2,0,none⟩) 1 1] w17 [.one .slice] λ(s9:Sl) w18=>
cl Pg F.bL [s9.v,.int .i64 n9] w18 [.one .slice] λ(s10:Sl) w19=>
cl Pg F.aE [s8.v,s10.v] w19 [.one .slice] λ(s11:Sl) w20=>
bnd (wi (i+1)) λn11=>
C0 s11 s3 n11 c c1 w20)) (
J0 q r w3)) Sl.nil a 0 v v1 w2) λ(q1:Sl)(r3:Sl) w21=>
R (.tuple #[q1.v,r3.v,.int .i64 n2]) w21
theorem Ct.cy{K:KT [.one .slice,.one .slice,.one (.int .i64)]}(h:Sh.cy a b (Rt X [.one .slice,.one .slice,.one (.int .i64)] K w) w.here):Ct Pg F.cy [a.v,b.v] w X [.one .slice,.one .slice,.one (.int .i64)] K:=
 cod (Sh.cy a b) 70 [(8,70),(13,72)] [(70,2),(72,2)] [(2,0,[(9,.one .slice),(10,.one .slice)]),(3,6,[(9,.one .slice),(10,.one .slice),(11,.one (.int .i64)),(70,.one .slice),(71,.one .bool)])] f32 h
def Sh.aE(a:Sl)(b:Sl)(R:Value→TW→Prop)(w:TW):Prop:=
Jn [.slice] (λJ0=>
Lp [.slice,.int .i64] (λ(out:Sl)(i:Int) w1 C0=>
bnd (if ((b.n:Int):Int)>(a.n:Int) then (b.n:Int) else (a.n:Int)) λn=>
cond (decide ((i:Int)<n)) (
cl Pg F.bO [a.v,.int .i64 i] w1 [.agg [.slice,.bool]] λ(r:Sl)(r1:Bool) w2=>
cl Pg F.bO [b.v,.int .i64 i] w2 [.agg [.slice,.bool]] λ(r2:Sl)(r3:Bool) w3=>
cl Pg F.bR [.agg #[r.v,.bool r1],.agg #[r2.v,.bool r3]] w3 [.agg [.slice,.bool]] λ(r4:Sl)(r5:Bool) w4=>
nwb w4 [r4.v,.bool r5] T.ae λb1 w5=>
apd w5 T.ae 2 32 out ⟨(some ⟨b1,0,none⟩),1,1⟩ λs w6=>
bnd (wi (i+1)) λn1=>
C0 s n1 w6) (
J0 out w1)) Sl.nil 0 w) λ(out1:Sl) w7=>
cl Pg F.aq [out1.v] w7 [.one .slice] λ(s1:Sl) w8=>
R (s1.v) w8
theorem Ct.aE(h:Sh.aE a b (Rt X [.one .slice] K w) w.here):Ct Pg F.aE [a.v,b.v] w X [.one .slice] K:=
 cod (Sh.aE a b) 28 [] [] [(2,0,[(5,.one .slice)]),(3,3,[(5,.one .slice),(6,.one (.int .i64))])] f34 h
def Sh.aJ(a:Sl)(b:Sl)(R:Value→TW→Prop)(w:TW):Prop:=
Jn [.bool] (λJ0=>
cond (((a.n:Int):Int) == 0) (
J0 true w) (
J0 (((b.n:Int):Int) == 0) w)) λ(x:Bool) w1=>
cond x (
R (.slice none 0 0) w1) (
bnd (wi ((a.n:Int)+(b.n:Int))) λn=>
bnd (wi (n-1)) λn1=>
mks w1 n1 n1 T.ae 32 [.slice none 0 0,.bool false] λs w2=>
Jn [] (λJ1=>
Lp [.int .i64] (λ(i:Int) w3 C0=>
cond (decide ((i:Int)<(a.n:Int))) (
Jn [] (λJ2=>
Lp [.int .i64] (λ(j:Int) w4 C1=>
cond (decide ((j:Int)<(b.n:Int))) (
bnd (wi (i+j)) λn2=>
bnd (wi (i+j)) λn3=>
ixa s n3 2 λa1=>
ldc (.slice) w4.drew (a1.add 0) λ(v:Sl)=>
ldc (.bool) w4.drew (a1.add 1) λ(v1:Bool)=>
ixa a i 2 λa2=>
ldc (.slice) w4.drew (a2.add 0) λ(v2:Sl)=>
ldc (.bool) w4.drew (a2.add 1) λ(v3:Bool)=>
ixa b j 2 λa3=>
ldc (.slice) w4.drew (a3.add 0) λ(v4:Sl)=>
ldc (.bool) w4.drew (a3.add 1) λ(v5:Bool)=>
cl Pg F.an [.agg #[v2.v,.bool v3],.agg #[v4.v,.bool v5]] w4.drew [.agg [.slice,.bool]] λ(r:Sl)(r1:Bool) w5=>
hld w5 [(a1.add 0,v.v),(a1.add 1,.bool v1)] <|
cl Pg F.bR [.agg #[v.v,.bool v1],.agg #[r.v,.bool r1]] w5 [.agg [.slice,.bool]] λ(r2:Sl)(r3:Bool) w6=>
ixa s n2 2 λa4=>
stc w6 a4 r2.v λw7=>
stc w7 (a4.add 1) (.bool r3) λw8=>
bnd (wi (j+1)) λn4=>
C1 n4 w8) (
J2 w4)) 0 w3) fun  w9=>
bnd (wi (i+1)) λn5=>
C0 n5 w9) (
J1 w3)) 0 w2) fun  w10=>
cl Pg F.aq [s.v] w10 [.one .slice] λ(s1:Sl) w11=>
R (s1.v) w11)
theorem Ct.aJ(h:Sh.aJ a b (Rt X [.one .slice] K w) w.here):Ct Pg F.aJ [a.v,b.v] w X [.one .slice] K:=
 cod (Sh.aJ a b) 58 [] [] [(0,1,[(15,.one .bool)]),(2,0,[]),(3,5,[(6,.one (.int .i64))]),(2,2,[]),(3,8,[(7,.one (.int .i64))])] f35 h
def Sh.dt(a:Sl)(b:Sl)(R:Value→TW→Prop)(w:TW):Prop:=
Jn [.slice] (λJ0=>
Lp [.slice,.int .i64] (λ(out:Sl)(i:Int) w1 C0=>
bnd (if ((b.n:Int):Int)>(a.n:Int) then (b.n:Int) else (a.n:Int)) λn=>
cond (decide ((i:Int)<n)) (
cl Pg F.bO [a.v,.int .i64 i] w1 [.agg [.slice,.bool]] λ(r:Sl)(r1:Bool) w2=>
cl Pg F.bO [b.v,.int .i64 i] w2 [.agg [.slice,.bool]] λ(r2:Sl)(r3:Bool) w3=>
cl Pg F.aK [.agg #[r.v,.bool r1],.agg #[r2.v,.bool r3]] w3 [.agg [.slice,.bool]] λ(r4:Sl)(r5:Bool) w4=>
nwb w4 [r4.v,.bool r5] T.ae λb1 w5=>
apd w5 T.ae 2 32 out ⟨(some ⟨b1,0,none⟩),1,1⟩ λs w6=>
bnd (wi (i+1)) λn1=>
C0 s n1 w6) (
J0 out w1)) Sl.nil 0 w) λ(out1:Sl) w7=>
cl Pg F.aq [out1.v] w7 [.one .slice] λ(s1:Sl) w8=>
R (s1.v) w8
theorem Ct.dt(h:Sh.dt a b (Rt X [.one .slice] K w) w.here):Ct Pg F.dt [a.v,b.v] w X [.one .slice] K:=
 cod (Sh.dt a b) 28 [] [] [(2,0,[(5,.one .slice)]),(3,3,[(5,.one .slice),(6,.one (.int .i64))])] f36 h
def Sh.cz(a:Sl)(b:Sl)(R:Value→TW→Prop)(w:TW):Prop:=
cl Pg F.ay [a.v] w [.one .slice] λ(s:Sl) w1=>
cl Pg F.ay [b.v] w1 [.one .slice] λ(s1:Sl) w2=>
cl Pg F.cq [s.v,s1.v] w2 [.one .slice] λ(s2:Sl) w3=>
cl Pg F.aH [a.v] w3 [.agg [.slice,.bool],.one .slice] λ(_:Sl)(_:Bool)(s3:Sl) w4=>
cl Pg F.aH [b.v] w4 [.agg [.slice,.bool],.one .slice] λ(_:Sl)(_:Bool)(s4:Sl) w5=>
Jn [.slice] (λJ0=>
Lp [.slice,.slice] (λ(a1:Sl)(b1:Sl) w6 C0=>
cond (decide (((b1.n:Int):Int)>0)) (
Jn [.slice,.slice] (λJ1=>
cond (decide (((a1.n:Int):Int)<(b1.n:Int))) (
J1 b1 a1 w6) (
cl Pg F.cy [a1.v,b1.v] w6 [.one .slice,.one .slice,.one (.int .i64)] λ(_:Sl)(s6:Sl)(_:Int) w7=>
cl Pg F.aH [s6.v] w7 [.agg [.slice,.bool],.one .slice] λ(_:Sl)(_:Bool)(s7:Sl) w8=>
J1 b1 s7 w8)) λ(a2:Sl)(b2:Sl) w9=>
C0 a2 b2 w9) (
J0 a1 w6)) s3 s4 w5) λ(a3:Sl) w10=>
cl Pg F.aH [a3.v] w10 [.agg [.slice,.bool],.one .slice] λ(_:Sl)(_:Bool)(s8:Sl) w11=>
cl Pg F.cN [s2.v] w11 [.agg [.slice,.bool]] λ(r9:Sl)(r10:Bool) w12=>
cl Pg F.ai [s8.v,.agg #[r9.v,.bool r10]] w12 [.one .slice] λ(s9:Sl) w13=>
R (s9.v) w13
theorem Ct.cz(h:Sh.cz a b (Rt X [.one .slice] K w) w.here):Ct Pg F.cz [a.v,b.v] w X [.one .slice] K:=
 cod (Sh.cz a b) 57 [] [] [(2,0,[(0,.one .slice)]),(3,4,[(0,.one .slice),(1,.one .slice)]),(2,1,[(0,.one .slice),(1,.one .slice)])] f40 h
def Sh.aq(a:Sl)(R:Value→TW→Prop)(w:TW):Prop:=
Jn [.int .i64] (λJ0=>
Lp [.int .i64] (λ(k:Int) w1 C0=>
Jn [.bool] (λJ1=>
cond (decide ((k:Int)>0)) (
bnd (wi (k-1)) λn=>
ixa a n 2 λa1=>
ldc (.slice) w1 (a1.add 0) λ(v:Sl)=>
ldc (.bool) w1 (a1.add 1) λ(v1:Bool)=>
cl Pg F.aA [.agg #[v.v,.bool v1]] w1 [.one .bool] λ(ok:Bool) w2=>
J1 ok w2) (
J1 false w1)) λ(x:Bool) w3=>
cond x (
bnd (wi (k-1)) λn1=>
C0 n1 w3) (
J0 k w3)) (a.n:Int) w) λ(k1:Int) w4=>
slc a 0 k1 2 λs=>
R (s.v) w4
theorem Ct.aq(h:Sh.aq a (Rt X [.one .slice] K w) w.here):Ct Pg F.aq [a.v] w X [.one .slice] K:=
 cod (Sh.aq a) 21 [] [] [(2,0,[(3,.one (.int .i64))]),(3,2,[(3,.one (.int .i64))]),(0,2,[(15,.one .bool)])] f43 h
def Sh.cD(a:Sl)(c0:Sl)(c1:Bool)(R:Value→TW→Prop)(w:TW):Prop:=
nwv w λw1=>
Jn [.slice] (λJ0=>
Lp [.slice,.int .i64,.slice,.bool] (λ(out:Sl)(i:Int)(c2:Sl)(c3:Bool) w2 C0=>
cond (decide ((i:Int)<(a.n:Int))) (
ixa a i 2 λa1=>
ldc (.slice) w2.drew (a1.add 0) λ(v:Sl)=>
ldc (.bool) w2.drew (a1.add 1) λ(v1:Bool)=>
(cl Pg F.aO [.agg #[v.v,.bool v1],.agg #[c2.v,.bool c3]] w2.drew [.agg [.slice,.bool],.agg [.slice,.bool]] λ(r:Sl)(r1:Bool)(r2:Sl)(r3:Bool) w3=>
(nwv w3 λw4=>
nwv w4 λw5=>
nwv w5 λw6=>
nwv w6 λw7=>
cl Pg F.aA [.agg #[r2.v,.bool r3]] w7 [.one .bool] λ(ok:Bool) w8=>
cond (!ok) (
R (.tuple #[.slice none 0 0,.bool false]) w8) (
nwb w8 [r.v,.bool r1] T.ae λb w9=>
apd w9 T.ae 2 32 out ⟨(some ⟨b,0,none⟩),1,1⟩ λs w10=>
bnd (wi (i+1)) λn=>
C0 s n c2 c3 w10))∧
(nwv w3 λw11=>
nwv w11 λw12=>
nwv w12 λw13=>
nwv w13 λw14=>
cl Pg F.aA [.agg #[r2.v,.bool r3]] w14 [.one .bool] λ(ok1:Bool) w15=>
cond (!ok1) (
R (.tuple #[.slice none 0 0,.bool false]) w15) (
nwb w15 [r.v,.bool r1] T.ae λb1 w16=>
apd w16 T.ae 2 32 out ⟨(some ⟨b1,0,none⟩),1,1⟩ λs1 w17=>
bnd (wi (i+1)) λn1=>
C0 s1 n1 c2 c3 w17)))∧
(nwv w2.drew λw18=>
hld w18 [(a1.add 0,v.v),(a1.add 1,.bool v1)] <|
(cl Pg F.aO [.agg #[v.v,.bool v1],.agg #[c2.v,.bool c3]] w18 [.agg [.slice,.bool],.agg [.slice,.bool]] λ(r4:Sl)(r5:Bool)(r6:Sl)(r7:Bool) w19=>
nwv w19 λw20=>
nwv w20 λw21=>
nwv w21 λw22=>
cl Pg F.aA [.agg #[r6.v,.bool r7]] w22 [.one .bool] λ(ok2:Bool) w23=>
cond (!ok2) (
R (.tuple #[.slice none 0 0,.bool false]) w23) (
nwb w23 [r4.v,.bool r5] T.ae λb2 w24=>
apd w24 T.ae 2 32 out ⟨(some ⟨b2,0,none⟩),1,1⟩ λs2 w25=>
bnd (wi (i+1)) λn2=>
C0 s2 n2 c2 c3 w25))∧
(nwv w18 λw26=>
hld w26 [(a1.add 0,v.v),(a1.add 1,.bool v1)] <|
cl Pg F.aO [.agg #[v.v,.bool v1],.agg #[c2.v,.bool c3]] w26 [.agg [.slice,.bool],.agg [.slice,.bool]] λ(r8:Sl)(r9:Bool)(r10:Sl)(r11:Bool) w27=>
nwv w27 λw28=>
nwv w28 λw29=>
cl Pg F.aA [.agg #[r10.v,.bool r11]] w29 [.one .bool] λ(ok3:Bool) w30=>
cond (!ok3) (
R (.tuple #[.slice none 0 0,.bool false]) w30) (
nwb w30 [r8.v,.bool r9] T.ae λb3 w31=>
apd w31 T.ae 2 32 out ⟨(some ⟨b3,0,none⟩),1,1⟩ λs3 w32=>
bnd (wi (i+1)) λn3=>
C0 s3 n3 c2 c3 w32)))∧
(nwv w2.drew λw33=>
hld w33 [(a1.add 0,v.v),(a1.add 1,.bool v1)] <|
(cl Pg F.aO [.agg #[v.v,.bool v1],.agg #[c2.v,.bool c3]] w33 [.agg [.slice,.bool],.agg [.slice,.bool]] λ(r12:Sl)(r13:Bool)(r14:Sl)(r15:Bool) w34=>
nwv w34 λw35=>
nwv w35 λw36=>
nwv w36 λw37=>
cl Pg F.aA [.agg #[r14.v,.bool r15]] w37 [.one .bool] λ(ok4:Bool) w38=>
cond (!ok4) (
R (.tuple #[.slice none 0 0,.bool false]) w38) (
nwb w38 [r12.v,.bool r13] T.ae λb4 w39=>
apd w39 T.ae 2 32 out ⟨(some ⟨b4,0,none⟩),1,1⟩ λs4 w40=>
bnd (wi (i+1)) λn4=>
C0 s4 n4 c2 c3 w40))∧
(nwv w33 λw41=>
hld w41 [(a1.add 0,v.v),(a1.add 1,.bool v1)] <|
cl Pg F.aO [.agg #[v.v,.bool v1],.agg #[c2.v,.bool c3]] w41 [.agg [.slice,.bool],.agg [.slice,.bool]] λ(r16:Sl)(r17:Bool)(r18:Sl)(r19:Bool) w42=>
nwv w42 λw43=>
nwv w43 λw44=>
cl Pg F.aA [.agg #[r18.v,.bool r19]] w44 [.one .bool] λ(ok5:Bool) w45=>
cond (!ok5) (
R (.tuple #[.slice none 0 0,.bool false]) w45) (
nwb w45 [r16.v,.bool r17] T.ae λb5 w46=>
apd w46 T.ae 2 32 out ⟨(some ⟨b5,0,none⟩),1,1⟩ λs5 w47=>
bnd (wi (i+1)) λn5=>
C0 s5 n5 c2 c3 w47)))) (
J0 out w2)) Sl.nil 0 c0 c1 w1) λ(out1:Sl) w48=>
R (.tuple #[out1.v,.bool true]) w48
theorem Ct.cD{c1:Bool}{K:KT [.one .slice,.one .bool]}(h:Sh.cD a c0 c1 (Rt X [.one .slice,.one .bool] K w) w.here):Ct Pg F.cD [a.v,.agg #[c0.v,.bool c1]] w X [.one .slice,.one .bool] K:=
 cod (Sh.cD a c0 c1) 33 [(3,33),(8,35),(9,37)] [(33,2),(35,2),(37,2)] [(2,0,[(6,.one .slice)]),(3,3,[(6,.one .slice),(7,.one (.int .i64)),(33,.one .slice),(34,.one .bool)])] f59 h
def Sh.bO(a:Sl)(i:Int)(R:Value→TW→Prop)(w:TW):Prop:=
nwv w λw1=>
Jn [.bool,.slice,.bool] (λJ0=>
cond (decide ((i:Int)<0)) (
J0 true Sl.nil false w1) (
J0 (decide ((i:Int)≥(a.n:Int))) Sl.nil false w1)) λ(x:Bool)(_:Sl)(_:Bool) w2=>
cond x (
nwv w2 λw3=>
R (.agg #[.slice none 0 0,.bool false]) w3) (
ixa a i 2 λa1=>
ldc (.slice) w2 (a1.add 0) λ(v:Sl)=>
ldc (.bool) w2 (a1.add 1) λ(v1:Bool)=>
nwv w2 λw4=>
R (.agg #[v.v,.bool v1]) w4)
theorem Ct.bO{i:Int}{K:KT [.agg [.slice,.bool]]}(h:Sh.bO a i (Rt X [.agg [.slice,.bool]] K w) w.here):Ct Pg F.bO [a.v,.int .i64 i] w X [.agg [.slice,.bool]] K:=
 cod (Sh.bO a i) 18 [(4,18)] [(18,2)] [(0,1,[(12,.one .bool),(18,.one .slice),(19,.one .bool)])] f80 h
def Sh.bL(a:Sl)(k:Int)(R:Value→TW→Prop)(w:TW):Prop:=
cond (((a.n:Int):Int) == 0) (
R (.slice none 0 0) w) (
mks w k k T.ae 32 [.slice none 0 0,.bool false] λs w1=>
apd w1 T.ae 2 32 s a λs1 w2=>
R (s1.v) w2)
theorem Ct.bL{k:Int}(h:Sh.bL a k (Rt X [.one .slice] K w) w.here):Ct Pg F.bL [a.v,.int .i64 k] w X [.one .slice] K:=
 cod (Sh.bL a k) 12 [] [] [] f81 h
end
section
set_option maxRecDepth 100000
open Go.Proofs.Tryz
variable {w:TW} {X:Nat→Prop}
def Sh.jY(t:HL I11)(R:Value→TW→Prop)(w:TW):Prop:=
nwv w λw1=>
cl Pg F.jD [.agg (aX I11 t).toArray] w1 [.one .ptr] λ(p:Option Addr) w2=>
nwb w2 [.pointer p] T.uB λb w3=>
R (.pointer (some ⟨b,0,none⟩)) w3
theorem Ct.jY{t:HL I11}{K:KT [.one .ptr]}(h:Sh.jY t (Rt X [.one .ptr] K w) w.here):Ct Pg F.jY [.agg (aX I11 t).toArray] w X [.one .ptr] K:=
 cod (Sh.jY t) 7 [(1,7)] [(7,11)] [] f47 h
def Sh.cM(e0:Option Addr)(a:Sl)(b:Sl)(R:Value→TW→Prop)(w:TW):Prop:=
cl Pg F.io [a.v] w [.one (.int .i64)] λ(r:Int) w1=>
cl Pg F.io [b.v] w1 [.one (.int .i64)] λ(r1:Int) w2=>
bnd (if (r1:Int)<r then r1 else r) λn=>
bnd (wi (n+1)) λn1=>
nck e0 λa1=>
ldc (.ptr) w2 a1 λ(v:Option Addr)=>
nck v λa2=>
ldc (.ptr) w2 a2 λ(v1:Option Addr)=>
nck v1 λa3=>
ldc (.ptr) w2 a3 λ(v2:Option Addr)=>
nck v2 λa4=>
ldc (.ptr) w2 a4 λ(v3:Option Addr)=>
nck v3 λa5=>
ldc (.ptr) w2 a5 λ(v4:Option Addr)=>
nck v4 λa6=>
ldc (.ptr) w2 a6 λ(v5:Option Addr)=>
nck v5 λa7=>
ldc (.ptr) w2 a7 λ(v6:Option Addr)=>
nck v6 λa8=>
ldc (.ptr) w2 a8 λ(v7:Option Addr)=>
nck v7 λa9=>
ldc (.ptr) w2 a9 λ(v8:Option Addr)=>
nck v8 λa10=>
ldc (.ptr) w2 a10 λ(v9:Option Addr)=>
nck v9 λa11=>
ldc (.ptr) w2 a11 λ(v10:Option Addr)=>
nck v10 λa12=>
ldc (.ptr) w2 a12 λ(v11:Option Addr)=>
nck v11 λa13=>
ldc (.ptr) w2 a13 λ(v12:Option Addr)=>
nck v12 λa14=>
ldc (.ptr) w2 a14 λ(v13:Option Addr)=>
nck v13 λa15=>
ldc (.ptr) w2 a15 λ(v14:Option Addr)=>
nck v14 λa16=>
ldc (.ptr) w2 a16 λ(v15:Option Addr)=>
nck v15 λa17=>
ldc (.int .i64) w2 ((a17.add 3).add 7) λ(v16:Int)=>
cond (decide ((n1:Int)<v16)) (
nck e0 λa18=>
ldc (.ptr) w2 a18 λ(v17:Option Addr)=>
cl Pg F.dG [.pointer v17,a.v,b.v] w2 [.one .slice] λ(s:Sl) w3=>
R (s.v) w3) (
nck e0 λa19=>
ldc (.ptr) w2 a19 λ(v18:Option Addr)=>
nck v18 λa20=>
ldc (.ptr) w2 a20 λ(v19:Option Addr)=>
nck v19 λa21=>
ldc (.ptr) w2 a21 λ(v20:Option Addr)=>
nck v20 λa22=>
ldc (.ptr) w2 a22 λ(v21:Option Addr)=>
nck v21 λa23=>
ldc (.ptr) w2 a23 λ(v22:Option Addr)=>
nck v22 λa24=>
ldc (.ptr) w2 a24 λ(v23:Option Addr)=>
nck v23 λa25=>
ldc (.ptr) w2 a25 λ(v24:Option Addr)=>
nck v24 λa26=>
ldc (.ptr) w2 a26 λ(v25:Option Addr)=>
nck v25 λa27=>
ldc (.ptr) w2 a27 λ(v26:Option Addr)=>
nck v26 λa28=>
ldc (.ptr) w2 a28 λ(v27:Option Addr)=>
nck v27 λa29=>
ldc (.ptr) w2 a29 λ(v28:Option Addr)=>
nck v28 λa30=>
ldc (.ptr) w2 a30 λ(v29:Option Addr)=>
nck v29 λa31=>
ldc (.ptr) w2 a31 λ(v30:Option Addr)=>
nck v30 λa32=>
ldc (.ptr) w2 a32 λ(v31:Option Addr)=>
nck v31 λa33=>
ldc (.ptr) w2 a33 λ(v32:Option Addr)=>
nck v32 λa34=>
ldc (.ptr) w2 a34 λ(v33:Option Addr)=>
nck v33 λa35=>
ldc (.int .i64) w2 ((a35.add 3).add 8) λ(v34:Int)=>
cond (decide ((n1:Int)<v34)) (
cl Pg F.pS [.pointer e0,a.v,b.v] w2 [.one .slice] λ(s1:Sl) w4=>
R (s1.v) w4) (
cl Pg F.pR [.pointer e0,a.v,b.v] w2 [.one .slice] λ(s2:Sl) w5=>
R (s2.v) w5))
theorem Ct.cM{e0:Option Addr}{a:Sl}{b:Sl}{K:KT [.one .slice]}(h:Sh.cM e0 a b (Rt X [.one .slice] K w) w.here):Ct Pg F.cM [.pointer e0,a.v,b.v] w X [.one .slice] K:=
 cod (Sh.cM e0 a b) 141 [] [] [] f67 h
end
end Go.Proofs.YtpbimnlggalnfaaGreatDoor.Zg
