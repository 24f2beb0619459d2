/- A part of the proofs of this seat's laws. -/
import Derived.Test.YtpbimnlggalnfaaGreatDoorGC
set_option linter.unusedVariables false
set_option linter.unusedSimpArgs false
set_option linter.unnecessarySimpa false
namespace Go.Proofs.YtpbimnlggalnfaaGreatDoor.Zg
open Go.RowKit
section
set_option maxRecDepth 100000
open Go.Proofs.Tryz
variable {w:TW} {X:Nat→Prop} {K:KT [.one .slice]} {e0:Option Addr} {a b:Sl} {k:Int}
def Sh.jA(t:HL I11)(p:Int)(R:Value→TW→Prop)(w:TW):Prop:=
nwv w λw1=>
cl Pg F.ja [.int .u64 p] w1 [.one .ptr,.one (.int .i64)] λ(p1:Option Addr)(r:Int) w2=>
cond ((r:Int) != 0) (
R (.tuple #[.pointer none,.int .i64 r]) w2) (
cl Pg F.jB [.agg (aT I11 t).toArray] w2 [.one .ptr] λ(p2:Option Addr) w3=>
nwb w3 [.pointer p1,.pointer p2] T.uX λb w4=>
R (.tuple #[.pointer (some ⟨b,0,none⟩),.int .i64 0]) w4)
theorem Ct.jA{t:HL I11}{p:Int}{K:KT [.one .ptr,.one (.int .i64)]}(h:Sh.jA t p (Rt X [.one .ptr,.one (.int .i64)] K w) w.here):Ct Pg F.jA [.agg (aT I11 t).toArray,.int .u64 p] w X [.one .ptr,.one (.int .i64)] K:=
 cod (Sh.jA t p) 21 [(2,21)] [(21,11)] [] f145 h
def Sh.eo(e0:Option Addr)(a:Sl)(b:Sl)(R:Value→TW→Prop)(w:TW):Prop:=
nck e0 λa1=>
ldc (.ptr) w.drew a1 λ(v:Option Addr)=>
nck e0 λa2=>
ldc (.ptr) w.drew a2 λ(v1:Option Addr)=>
cl Pg F.ar [.pointer v,a.v] w.drew [.one .slice] λ(s:Sl) w1=>
hld w1 [(a2,.pointer v1)] <|
cl Pg F.ar [.pointer v1,b.v] w1 [.one .slice] λ(s1:Sl) w2=>
nck e0 λa3=>
ldc (.ptr) w2 (a3.add 1) λ(v2:Option Addr)=>
nck v2 λa4=>
ldc (.ptr) w2 a4 λ(v3:Option Addr)=>
nck v3 λa5=>
ldc (.ptr) w2 a5 λ(v4:Option Addr)=>
nck v4 λa6=>
ldc (.ptr) w2 a6 λ(v5:Option Addr)=>
nck v5 λa7=>
ldc (.ptr) w2 a7 λ(v6:Option Addr)=>
nck v6 λa8=>
ldc (.ptr) w2 a8 λ(v7:Option Addr)=>
nck v7 λa9=>
ldc (.ptr) w2 a9 λ(v8:Option Addr)=>
nck v8 λa10=>
ldc (.ptr) w2 a10 λ(v9:Option Addr)=>
nck v9 λa11=>
ldc (.ptr) w2 a11 λ(v10:Option Addr)=>
nck v10 λa12=>
ldc (.ptr) w2 a12 λ(v11:Option Addr)=>
nck v11 λa13=>
ldc (.ptr) w2 a13 λ(v12:Option Addr)=>
nck v12 λa14=>
ldc (.ptr) w2 a14 λ(v13:Option Addr)=>
nck v13 λa15=>
ldc (.ptr) w2 a15 λ(v14:Option Addr)=>
nck v14 λa16=>
ldc (.ptr) w2 a16 λ(v15:Option Addr)=>
nck v15 λa17=>
ldc (.ptr) w2 a17 λ(v16:Option Addr)=>
nck v16 λa18=>
ldc (.int .i64) w2 ((a18.add 3).add 0) λ(_:Int)=>
ldc (.int .i64) w2 ((a18.add 3).add 1) λ(_:Int)=>
ldc (.int .i64) w2 ((a18.add 3).add 2) λ(v19:Int)=>
ldc (.int .i64) w2 ((a18.add 3).add 3) λ(_:Int)=>
ldc (.int .i64) w2 ((a18.add 3).add 4) λ(_:Int)=>
ldc (.int .i64) w2 ((a18.add 3).add 5) λ(_:Int)=>
ldc (.int .i64) w2 ((a18.add 3).add 6) λ(_:Int)=>
ldc (.int .i64) w2 ((a18.add 3).add 7) λ(v24:Int)=>
ldc (.int .i64) w2 ((a18.add 3).add 8) λ(v25:Int)=>
ldc (.int .i64) w2 ((a18.add 3).add 9) λ(_:Int)=>
ldc (.int .i64) w2 ((a18.add 3).add 10) λ(_:Int)=>
nwv w2 λw3=>
nwv w3 λw4=>
bnd (if ((s1.n:Int):Int)<(s.n:Int) then (s1.n:Int) else (s.n:Int)) λn=>
cond (decide ((n:Int)<v24)) (
nck e0 λa19=>
ldc (.ptr) w4 a19 λ(v28:Option Addr)=>
cl Pg F.cU [.pointer v28,s.v,s1.v] w4 [.one .slice] λ(s2:Sl) w5=>
R (s2.v) w5) (
cond (decide ((n:Int)<v25)) (
cl Pg F.aF [.pointer e0,s.v,s1.v] w4 [.one .slice] λ(s3:Sl) w6=>
R (s3.v) w6) (
bnd (wi ((s.n:Int)+(s1.n:Int))) λn1=>
cond (decide ((n1:Int)≥v19)) (
cl Pg F.em [.pointer e0,s.v,s1.v] w4 [.one .slice] λ(s4:Sl) w7=>
R (s4.v) w7) (
cl Pg F.dP [.pointer e0,s.v,s1.v] w4 [.one .slice] λ(s5:Sl) w8=>
R (s5.v) w8)))
theorem Ct.eo(h:Sh.eo e0 a b (Rt X [.one .slice] K w) w.here):Ct Pg F.eo [.pointer e0,a.v,b.v] w X [.one .slice] K:=
 cod (Sh.eo e0 a b) 113 [(7,113)] [(113,11)] [] f146 h
def Sh.aF(e0:Option Addr)(a:Sl)(b:Sl)(R:Value→TW→Prop)(w:TW):Prop:=
Jn [.slice,.slice] (λJ0=>
cond (decide (((a.n:Int):Int)<(b.n:Int))) (
J0 b a w) (
J0 a b w)) λ(a1:Sl)(b1:Sl) w1=>
nck e0 λa2=>
ldc (.ptr) w1 (a2.add 1) λ(v:Option Addr)=>
nck v λa3=>
ldc (.ptr) w1 a3 λ(v1:Option Addr)=>
nck v1 λa4=>
ldc (.ptr) w1 a4 λ(v2:Option Addr)=>
nck v2 λa5=>
ldc (.ptr) w1 a5 λ(v3:Option Addr)=>
nck v3 λa6=>
ldc (.ptr) w1 a6 λ(v4:Option Addr)=>
nck v4 λa7=>
ldc (.ptr) w1 a7 λ(v5:Option Addr)=>
nck v5 λa8=>
ldc (.ptr) w1 a8 λ(v6:Option Addr)=>
nck v6 λa9=>
ldc (.ptr) w1 a9 λ(v7:Option Addr)=>
nck v7 λa10=>
ldc (.ptr) w1 a10 λ(v8:Option Addr)=>
nck v8 λa11=>
ldc (.ptr) w1 a11 λ(v9:Option Addr)=>
nck v9 λa12=>
ldc (.ptr) w1 a12 λ(v10:Option Addr)=>
nck v10 λa13=>
ldc (.ptr) w1 a13 λ(v11:Option Addr)=>
nck v11 λa14=>
ldc (.ptr) w1 a14 λ(v12:Option Addr)=>
nck v12 λa15=>
ldc (.ptr) w1 a15 λ(v13:Option Addr)=>
nck v13 λa16=>
ldc (.ptr) w1 a16 λ(v14:Option Addr)=>
nck v14 λa17=>
ldc (.int .i64) w1 ((a17.add 3).add 7) λ(v15:Int)=>
cond (decide (((b1.n:Int):Int)<v15)) (
nck e0 λa18=>
ldc (.ptr) w1 a18 λ(v16:Option Addr)=>
cl Pg F.cU [.pointer v16,a1.v,b1.v] w1 [.one .slice] λ(s:Sl) w2=>
R (s.v) w2) (
bnd (wi ((a1.n:Int)+1)) λn=>
eI .i64 n 2 λn1=>
nck e0 λa19=>
ldc (.ptr) w1.drew a19 λ(v17:Option Addr)=>
slc a1 0 n1 1 λs1=>
slc a1 n1 (a1.n:Nat) 1 λs2=>
cl Pg F.ar [.pointer v17,s1.v] w1.drew [.one .slice] λ(s3:Sl) w3=>
cond (decide (((b1.n:Int):Int)≤n1)) (
nck e0 λa20=>
ldc (.ptr) w3.drew a20 λ(v18:Option Addr)=>
cl Pg F.aF [.pointer e0,s3.v,b1.v] w3.drew [.one .slice] λ(s4:Sl) w4=>
hld w4 [(a20,.pointer v18)] <|
cl Pg F.aF [.pointer e0,s2.v,b1.v] w4 [.one .slice] λ(s5:Sl) w5=>
hld w5 [(a20,.pointer v18)] <|
cl Pg F.bK [.pointer e0,s5.v,.int .i64 n1] w5 [.one .slice] λ(s6:Sl) w6=>
hld w6 [(a20,.pointer v18)] <|
nwb w6 [s4.v,s6.v] T.ji λb2 w7=>
hld w7 [(a20,.pointer v18)] <|
cl Pg F.aQ [.pointer v18,.slice (some ⟨b2,0,none⟩) 2 2] w7 [.one .slice] λ(s7:Sl) w8=>
R (s7.v) w8) (
nck e0 λa21=>
ldc (.ptr) w3.drew a21 λ(v19:Option Addr)=>
slc b1 0 n1 1 λs8=>
slc b1 n1 (b1.n:Nat) 1 λs9=>
cl Pg F.ar [.pointer v19,s8.v] w3.drew [.one .slice] λ(s10:Sl) w9=>
cl Pg F.aF [.pointer e0,s3.v,s10.v] w9 [.one .slice] λ(s11:Sl) w10=>
cl Pg F.aF [.pointer e0,s2.v,s9.v] w10 [.one .slice] λ(s12:Sl) w11=>
Jn [.slice] (λJ1=>
nck e0 λa22=>
ldc (.ptr) w11.drew a22 λ(v20:Option Addr)=>
nck e0 λa23=>
ldc (.ptr) w11.drew a23 λ(v21:Option Addr)=>
(nwb w11.drew [s3.v,s2.v] T.ji λb3 w12=>
hld w12 [(a23,.pointer v21),(a22,.pointer v20)] <|
(cl Pg F.aQ [.pointer v20,.slice (some ⟨b3,0,none⟩) 2 2] w12 [.one .slice] λ(s13:Sl) w13=>
hld w13 [(a23,.pointer v21)] <|
nwb w13 [s10.v,s9.v] T.ji λb4 w14=>
hld w14 [(a23,.pointer v21)] <|
cl Pg F.aQ [.pointer v21,.slice (some ⟨b4,0,none⟩) 2 2] w14 [.one .slice] λ(s14:Sl) w15=>
cl Pg F.aF [.pointer e0,s13.v,s14.v] w15 [.one .slice] λ(s15:Sl) w16=>
J1 s15 w16)∧
(nwb w12 [s10.v,s9.v] T.ji λb5 w17=>
hld w17 [(a23,.pointer v21),(a22,.pointer v20)] <|
cl Pg F.aQ [.pointer v20,.slice (some ⟨b3,0,none⟩) 2 2] w17 [.one .slice] λ(s16:Sl) w18=>
hld w18 [(a23,.pointer v21)] <|
cl Pg F.aQ [.pointer v21,.slice (some ⟨b5,0,none⟩) 2 2] w18 [.one .slice] λ(s17:Sl) w19=>
cl Pg F.aF [.pointer e0,s16.v,s17.v] w19 [.one .slice] λ(s18:Sl) w20=>
J1 s18 w20))∧
(nwb w11.drew [s10.v,s9.v] T.ji λb6 w21=>
hld w21 [(a23,.pointer v21),(a22,.pointer v20)] <|
nwb w21 [s3.v,s2.v] T.ji λb7 w22=>
hld w22 [(a23,.pointer v21),(a22,.pointer v20)] <|
cl Pg F.aQ [.pointer v20,.slice (some ⟨b7,0,none⟩) 2 2] w22 [.one .slice] λ(s19:Sl) w23=>
hld w23 [(a23,.pointer v21)] <|
cl Pg F.aQ [.pointer v21,.slice (some ⟨b6,0,none⟩) 2 2] w23 [.one .slice] λ(s20:Sl) w24=>
cl Pg F.aF [.pointer e0,s19.v,s20.v] w24 [.one .slice] λ(s21:Sl) w25=>
J1 s21 w25)) λ(both:Sl) w26=>
nck e0 λa24=>
ldc (.ptr) w26.drew a24 λ(v22:Option Addr)=>
nck e0 λa25=>
ldc (.ptr) w26.drew a25 λ(v23:Option Addr)=>
nwb w26.drew [s11.v,s12.v] T.ji λb8 w27=>
hld w27 [(a25,.pointer v23),(a24,.pointer v22)] <|
cl Pg F.aQ [.pointer v23,.slice (some ⟨b8,0,none⟩) 2 2] w27 [.one .slice] λ(s22:Sl) w28=>
hld w28 [(a24,.pointer v22)] <|
cl Pg F.dO [.pointer v22,both.v,s22.v] w28 [.one .slice] λ(s23:Sl) w29=>
nck e0 λa26=>
ldc (.ptr) w29.drew a26 λ(v24:Option Addr)=>
bnd (wi (2*n1)) λn2=>
cl Pg F.bK [.pointer e0,s23.v,.int .i64 n1] w29.drew [.one .slice] λ(s24:Sl) w30=>
hld w30 [(a26,.pointer v24)] <|
cl Pg F.bK [.pointer e0,s12.v,.int .i64 n2] w30 [.one .slice] λ(s25:Sl) w31=>
hld w31 [(a26,.pointer v24)] <|
nwb w31 [s11.v,s24.v,s25.v] T.ji λb9 w32=>
hld w32 [(a26,.pointer v24)] <|
cl Pg F.aQ [.pointer v24,.slice (some ⟨b9,0,none⟩) 3 3] w32 [.one .slice] λ(s26:Sl) w33=>
R (s26.v) w33))
theorem Ct.aF(h:Sh.aF e0 a b (Rt X [.one .slice] K w) w.here):Ct Pg F.aF [.pointer e0,a.v,b.v] w X [.one .slice] K:=
 cod (Sh.aF e0 a b) 186 [] [] [(1,2,[(1,.one .slice),(2,.one .slice)]),(0,11,[(14,.one .slice)])] f178 h
def Sh.em(e0:Option Addr)(a:Sl)(b:Sl)(R:Value→TW→Prop)(w:TW):Prop:=
nck e0 λa1=>
ldc (.ptr) w.drew a1 λ(v:Option Addr)=>
nck e0 λa2=>
ldc (.ptr) w.drew a2 λ(v1:Option Addr)=>
cl Pg F.ar [.pointer v,a.v] w.drew [.one .slice] λ(s:Sl) w1=>
hld w1 [(a2,.pointer v1)] <|
cl Pg F.ar [.pointer v1,b.v] w1 [.one .slice] λ(s1:Sl) w2=>
Jn [.bool] (λJ0=>
cond (((s.n:Int):Int) == 0) (
J0 true w2) (
J0 (((s1.n:Int):Int) == 0) w2)) λ(x:Bool) w3=>
cond x (
R (.slice none 0 0) w3) (
nck e0 λa3=>
ldc (.ptr) w3 (a3.add 1) λ(v2:Option Addr)=>
nck v2 λa4=>
ldc (.ptr) w3 a4 λ(v3:Option Addr)=>
nck v3 λa5=>
ldc (.ptr) w3 a5 λ(v4:Option Addr)=>
nck v4 λa6=>
ldc (.ptr) w3 a6 λ(v5:Option Addr)=>
nck v5 λa7=>
ldc (.ptr) w3 a7 λ(v6:Option Addr)=>
nck v6 λa8=>
ldc (.ptr) w3 a8 λ(v7:Option Addr)=>
nck v7 λa9=>
ldc (.ptr) w3 a9 λ(v8:Option Addr)=>
nck v8 λa10=>
ldc (.ptr) w3 a10 λ(v9:Option Addr)=>
nck v9 λa11=>
ldc (.ptr) w3 a11 λ(v10:Option Addr)=>
nck v10 λa12=>
ldc (.ptr) w3 a12 λ(v11:Option Addr)=>
nck v11 λa13=>
ldc (.ptr) w3 a13 λ(v12:Option Addr)=>
nck v12 λa14=>
ldc (.ptr) w3 a14 λ(v13:Option Addr)=>
nck v13 λa15=>
ldc (.ptr) w3 a15 λ(v14:Option Addr)=>
nck v14 λa16=>
ldc (.ptr) w3 a16 λ(v15:Option Addr)=>
nck v15 λa17=>
ldc (.ptr) w3 a17 λ(v16:Option Addr)=>
nck v16 λa18=>
cl Pg F.gU [.pointer (some a18),s.v,s1.v] w3 [.one .slice,.one .bool] λ(s2:Sl)(ok:Bool) w4=>
cond (!ok) (
cl Pg F.aF [.pointer e0,s.v,s1.v] w4 [.one .slice] λ(s3:Sl) w5=>
R (s3.v) w5) (
mks w4 (s2.n:Int) (s2.n:Int) T.ao 8 [.int .u64 0] λs4 w6=>
Jn [] (λJ1=>
Lp [.int .i64] (λ(x1:Int) w7 C0=>
cond (decide ((x1:Int)<(s2.n:Int))) (
ixa s2 x1 3 λa19=>
ldc (.int .u64) w7 (a19.add 0) λ(v17:Int)=>
ldc (.int .u64) w7 (a19.add 1) λ(v18:Int)=>
ldc (.int .u64) w7 (a19.add 2) λ(v19:Int)=>
nwv w7 λw8=>
nwv w8 λw9=>
cl Pg F.bG [.pointer e0,.agg #[.int .u64 v17,.int .u64 v18,.int .u64 v19]] w9 [.one (.int .u64)] λ(r:Int) w10=>
ixa s4 x1 1 λa20=>
stc w10 a20 (.int .u64 r) λw11=>
bnd (wi (x1+1)) λn=>
C0 n w11) (
J1 w7)) 0 w6) fun  w12=>
nck e0 λa21=>
ldc (.ptr) w12 a21 λ(v20:Option Addr)=>
cl Pg F.ar [.pointer v20,s4.v] w12 [.one .slice] λ(s5:Sl) w13=>
R (s5.v) w13))
theorem Ct.em(h:Sh.em e0 a b (Rt X [.one .slice] K w) w.here):Ct Pg F.em [.pointer e0,a.v,b.v] w X [.one .slice] K:=
 cod (Sh.em e0 a b) 115 [(11,115)] [(115,3)] [(0,2,[(31,.one .bool)]),(2,0,[]),(3,9,[(97,.one (.int .i64))])] f179 h
def Sh.dP(e0:Option Addr)(a:Sl)(b:Sl)(R:Value→TW→Prop)(w:TW):Prop:=
nck e0 λa1=>
ldc (.ptr) w.drew a1 λ(v:Option Addr)=>
nck e0 λa2=>
ldc (.ptr) w.drew a2 λ(v1:Option Addr)=>
cl Pg F.ar [.pointer v,a.v] w.drew [.one .slice] λ(s:Sl) w1=>
hld w1 [(a2,.pointer v1)] <|
cl Pg F.ar [.pointer v1,b.v] w1 [.one .slice] λ(s1:Sl) w2=>
Jn [.bool] (λJ0=>
cond (((s.n:Int):Int) == 0) (
J0 true w2) (
J0 (((s1.n:Int):Int) == 0) w2)) λ(x:Bool) w3=>
cond x (
R (.slice none 0 0) w3) (
nck e0 λa3=>
ldc (.ptr) w3 a3 λ(v2:Option Addr)=>
nck v2 λa4=>
ldc (.ptr) w3 a4 λ(v3:Option Addr)=>
cl Pg F.gI [.pointer v3] w3 [.one (.int .u64)] λ(r:Int) w4=>
bnd (wu (r-1)) λn=>
cl Pg F.fe [.int .u64 n] w4 [.one (.int .i64)] λ(r1:Int) w5=>
bnd (wi (2*r1)) λn1=>
bnd (if ((s1.n:Int):Int)<(s.n:Int) then (s1.n:Int) else (s.n:Int)) λn2=>
bnd (wu (n2)) λn3=>
cl Pg F.jo [.int .u64 n3] w5 [.one (.int .i64)] λ(r2:Int) w6=>
bnd (wi (n1+r2)) λn4=>
bnd (wi (n4+63)) λn5=>
eI .i64 n5 64 λn6=>
nck e0 λa5=>
ldc (.ptr) w6.drew (a5.add 1) λ(v4:Option Addr)=>
nck v4 λa6=>
ldc (.ptr) w6.drew a6 λ(v5:Option Addr)=>
nck v5 λa7=>
ldc (.ptr) w6.drew a7 λ(v6:Option Addr)=>
nck v6 λa8=>
ldc (.ptr) w6.drew a8 λ(v7:Option Addr)=>
nck v7 λa9=>
ldc (.ptr) w6.drew a9 λ(v8:Option Addr)=>
nck v8 λa10=>
ldc (.ptr) w6.drew a10 λ(v9:Option Addr)=>
nck v9 λa11=>
ldc (.ptr) w6.drew a11 λ(v10:Option Addr)=>
nck v10 λa12=>
ldc (.ptr) w6.drew a12 λ(v11:Option Addr)=>
nck v11 λa13=>
ldc (.ptr) w6.drew a13 λ(v12:Option Addr)=>
nck v12 λa14=>
ldc (.ptr) w6.drew a14 λ(v13:Option Addr)=>
nck v13 λa15=>
ldc (.ptr) w6.drew a15 λ(v14:Option Addr)=>
cl Pg F.fN [s.v,.int .i64 n6] w6.drew [.one .slice] λ(s2:Sl) w7=>
hld w7 [(a15,.pointer v14),(a14,.pointer v13),(a13,.pointer v12),(a12,.pointer v11),(a11,.pointer v10),(a10,.pointer v9),(a9,.pointer v8),(a8,.pointer v7),(a7,.pointer v6),(a6,.pointer v5),((a5.add 1),.pointer v4)] <|
cl Pg F.fN [s1.v,.int .i64 n6] w7 [.one .slice] λ(s3:Sl) w8=>
hld w8 [(a15,.pointer v14),(a14,.pointer v13),(a13,.pointer v12),(a12,.pointer v11),(a11,.pointer v10),(a10,.pointer v9),(a9,.pointer v8),(a8,.pointer v7),(a7,.pointer v6),(a6,.pointer v5),((a5.add 1),.pointer v4)] <|
cl Pg F.bv [.pointer v14,s2.v,s3.v] w8 [.one .slice] λ(s4:Sl) w9=>
hld w9 [(a14,.pointer v13),(a13,.pointer v12),(a12,.pointer v11),(a11,.pointer v10),(a10,.pointer v9),(a9,.pointer v8),(a8,.pointer v7),(a7,.pointer v6),(a6,.pointer v5),((a5.add 1),.pointer v4)] <|
bnd (wi ((s.n:Int)+(s1.n:Int))) λn7=>
bnd (wi (n7-1)) λn8=>
mks w9 n8 n8 T.ao 8 [.int .u64 0] λs5 w10=>
Jn [] (λJ1=>
Lp [.int .i64] (λ(x1:Int) w11 C0=>
cond (decide ((x1:Int)<(s5.n:Int))) (
nwb w11 [.int .u64 0,.int .u64 0,.int .u64 0] T.iy λb1 w12=>
Jn [] (λJ2=>
Lp [.int .i64] (λ(j:Int) w13 C1=>
Jn [.bool] (λJ3=>
cond (decide ((j:Int)<n6)) (
bnd (wi (n6*x1)) λn9=>
bnd (wi (n9+j)) λn10=>
J3 (decide ((n10:Int)<(s4.n:Int))) w13) (
J3 false w13)) λ(x2:Bool) w14=>
cond x2 (
bnd (wi (n6*x1)) λn11=>
bnd (wi (n11+j)) λn12=>
ixa s4 n12 1 λa16=>
ldc (.int .u64) w14 a16 λ(v15:Int)=>
ixp ⟨b1,0,none⟩ j 3 1 λa17=>
stc w14 a17 (.int .u64 v15) λw15=>
bnd (wi (j+1)) λn13=>
C1 n13 w15) (
J2 w14)) 0 w12) fun  w16=>
ldc (.int .u64) w16 (Addr.add ⟨b1,0,none⟩ 0) λ(v16:Int)=>
ldc (.int .u64) w16 (Addr.add ⟨b1,0,none⟩ 1) λ(v17:Int)=>
ldc (.int .u64) w16 (Addr.add ⟨b1,0,none⟩ 2) λ(v18:Int)=>
cl Pg F.bG [.pointer e0,.agg #[.int .u64 v16,.int .u64 v17,.int .u64 v18]] w16 [.one (.int .u64)] λ(r3:Int) w17=>
ixa s5 x1 1 λa18=>
stc w17 a18 (.int .u64 r3) λw18=>
bnd (wi (x1+1)) λn14=>
C0 n14 w18) (
J1 w11)) 0 w10) fun  w19=>
nck e0 λa19=>
ldc (.ptr) w19 a19 λ(v19:Option Addr)=>
cl Pg F.ar [.pointer v19,s5.v] w19 [.one .slice] λ(s6:Sl) w20=>
R (s6.v) w20)
theorem Ct.dP(h:Sh.dP e0 a b (Rt X [.one .slice] K w) w.here):Ct Pg F.dP [.pointer e0,a.v,b.v] w X [.one .slice] K:=
 cod (Sh.dP e0 a b) 147 [] [] [(0,2,[(33,.one .bool)]),(2,0,[]),(3,9,[(106,.one (.int .i64))]),(2,2,[]),(3,13,[(13,.one (.int .i64))]),(0,13,[(121,.one .bool)])] f180 h
def Sh.bK(e0:Option Addr)(a:Sl)(k:Int)(R:Value→TW→Prop)(w:TW):Prop:=
cond (((a.n:Int):Int) == 0) (
R (.slice none 0 0) w) (
mks w k k T.ao 8 [.int .u64 0] λs w1=>
apd w1 T.ao 1 8 s a λs1 w2=>
R (s1.v) w2)
theorem Ct.bK(h:Sh.bK e0 a k (Rt X [.one .slice] K w) w.here):Ct Pg F.bK [.pointer e0,a.v,.int .i64 k] w X [.one .slice] K:=
 cod (Sh.bK e0 a k) 14 [] [] [] f210 h
def Sh.bG(e0:Option Addr)(y0:Int)(y1:Int)(y2:Int)(R:Value→TW→Prop)(w:TW):Prop:=
nwv w λw1=>
nck e0 λa=>
ldc (.ptr) w1 a λ(v:Option Addr)=>
nck v λa1=>
ldc (.ptr) w1 a1 λ(v1:Option Addr)=>
cl Pg F.aV [.pointer v1,.int .u64 9223372036854775808,.int .u64 2] w1 [.one (.int .u64)] λ(r:Int) w2=>
nck e0 λa2=>
ldc (.ptr) w2.drew a2 λ(v2:Option Addr)=>
nck v2 λa3=>
ldc (.ptr) w2.drew a3 λ(v3:Option Addr)=>
cl Pg F.eQ [.pointer v3,.int .u64 y2] w2.drew [.one (.int .u64)] λ(r1:Int) w3=>
hld w3 [(a2,.pointer v2)] <|
nck e0 λa4=>
ldc (.ptr) w3.drew a4 λ(v4:Option Addr)=>
nck v4 λa5=>
ldc (.ptr) w3.drew a5 λ(v5:Option Addr)=>
nck e0 λa6=>
ldc (.ptr) w3.drew a6 λ(v6:Option Addr)=>
nck v6 λa7=>
ldc (.ptr) w3.drew a7 λ(v7:Option Addr)=>
cl Pg F.aV [.pointer v7,.int .u64 r1,.int .u64 r] w3.drew [.one (.int .u64)] λ(r2:Int) w4=>
hld w4 [(a6,.pointer v6),(a5,.pointer v5),(a4,.pointer v4)] <|
cl Pg F.dt [.pointer v5,.int .u64 r2,.int .u64 y1] w4 [.one (.int .u64)] λ(r3:Int) w5=>
hld w5 [(a6,.pointer v6),(a4,.pointer v4)] <|
nck e0 λa8=>
ldc (.ptr) w5.drew a8 λ(v8:Option Addr)=>
nck v8 λa9=>
ldc (.ptr) w5.drew a9 λ(v9:Option Addr)=>
nck e0 λa10=>
ldc (.ptr) w5.drew a10 λ(v10:Option Addr)=>
nck v10 λa11=>
ldc (.ptr) w5.drew a11 λ(v11:Option Addr)=>
cl Pg F.aV [.pointer v11,.int .u64 r3,.int .u64 r] w5.drew [.one (.int .u64)] λ(r4:Int) w6=>
hld w6 [(a10,.pointer v10),(a9,.pointer v9),(a8,.pointer v8)] <|
cl Pg F.dt [.pointer v9,.int .u64 r4,.int .u64 y0] w6 [.one (.int .u64)] λ(r5:Int) w7=>
hld w7 [(a10,.pointer v10),(a8,.pointer v8)] <|
R (.int .u64 r5) w7
theorem Ct.bG{y0:Int}{y1:Int}{y2:Int}{K:KT [.one (.int .u64)]}(h:Sh.bG e0 y0 y1 y2 (Rt X [.one (.int .u64)] K w) w.here):Ct Pg F.bG [.pointer e0,.agg #[.int .u64 y0,.int .u64 y1,.int .u64 y2]] w X [.one (.int .u64)] K:=
 cod (Sh.bG e0 y0 y1 y2) 65 [(3,65)] [(65,3)] [] f213 h
def Sh.fN(a:Sl)(k:Int)(R:Value→TW→Prop)(w:TW):Prop:=
bnd (wi (k*(a.n:Int))) λn=>
mks w n n T.ao 8 [.int .u64 0] λs w1=>
Jn [] (λJ0=>
Lp [.int .i64] (λ(x:Int) w2 C0=>
cond (decide ((x:Int)<(a.n:Int))) (
ixa a x 1 λa1=>
ldc (.int .u64) w2 a1 λ(v:Int)=>
bnd (wi (k*x)) λn1=>
ixa s n1 1 λa2=>
stc w2 a2 (.int .u64 v) λw3=>
bnd (wi (x+1)) λn2=>
C0 n2 w3) (
J0 w2)) 0 w1) fun  w4=>
R (s.v) w4
theorem Ct.fN(h:Sh.fN a k (Rt X [.one .slice] K w) w.here):Ct Pg F.fN [a.v,.int .i64 k] w X [.one .slice] K:=
 cod (Sh.fN a k) 28 [] [] [(2,0,[]),(3,3,[(15,.one (.int .i64))])] f215 h
end
section
set_option maxRecDepth 100000
open Go.Proofs.Tryz
variable {w:TW} {X:Nat→Prop} {K:KT [.one .slice]} {r:Option Addr} {a b:Sl}
def Sh.ja(p:Int)(R:Value→TW→Prop)(w:TW):Prop:=
cl Pg F.iH [.int .u64 p] w [.one .ptr,.one (.int .i64)] λ(p1:Option Addr)(r:Int) w1=>
cond ((r:Int) != 0) (
R (.tuple #[.pointer none,.int .i64 r]) w1) (
nwb w1 [.pointer p1] T.wJ λb w2=>
R (.tuple #[.pointer (some ⟨b,0,none⟩),.int .i64 0]) w2)
theorem Ct.ja{p:Int}{K:KT [.one .ptr,.one (.int .i64)]}(h:Sh.ja p (Rt X [.one .ptr,.one (.int .i64)] K w) w.here):Ct Pg F.ja [.int .u64 p] w X [.one .ptr,.one (.int .i64)] K:=
 cod (Sh.ja p) 17 [] [] [] f175 h
def Sh.ar(r:Option Addr)(a:Sl)(R:Value→TW→Prop)(w:TW):Prop:=
mks w (a.n:Int) (a.n:Int) T.ao 8 [.int .u64 0] λs w1=>
Jn [] (λJ0=>
Lp [.int .i64] (λ(x:Int) w2 C0=>
cond (decide ((x:Int)<(a.n:Int))) (
ixa a x 1 λa1=>
ldc (.int .u64) w2 a1 λ(v:Int)=>
nck r λa2=>
ldc (.ptr) w2 a2 λ(v1:Option Addr)=>
cl Pg F.eQ [.pointer v1,.int .u64 v] w2 [.one (.int .u64)] λ(r1:Int) w3=>
ixa s x 1 λa3=>
stc w3 a3 (.int .u64 r1) λw4=>
bnd (wi (x+1)) λn=>
C0 n w4) (
J0 w2)) 0 w1) fun  w5=>
cl Pg F.eW [s.v] w5 [.one .slice] λ(s1:Sl) w6=>
R (s1.v) w6
theorem Ct.ar(h:Sh.ar r a (Rt X [.one .slice] K w) w.here):Ct Pg F.ar [.pointer r,a.v] w X [.one .slice] K:=
 cod (Sh.ar r a) 30 [] [] [(2,0,[]),(3,3,[(13,.one (.int .i64))])] f176 h
def Sh.cU(r:Option Addr)(a:Sl)(b:Sl)(R:Value→TW→Prop)(w:TW):Prop:=
cl Pg F.ar [.pointer r,a.v] w [.one .slice] λ(s:Sl) w1=>
cl Pg F.ar [.pointer r,b.v] w1 [.one .slice] λ(s1:Sl) w2=>
Jn [.bool] (λJ0=>
cond (((s.n:Int):Int) == 0) (
J0 true w2) (
J0 (((s1.n:Int):Int) == 0) w2)) λ(x:Bool) w3=>
cond x (
R (.slice none 0 0) w3) (
bnd (wi ((s.n:Int)+(s1.n:Int))) λn=>
bnd (wi (n-1)) λn1=>
mks w3 n1 n1 T.ao 8 [.int .u64 0] λs2 w4=>
Jn [] (λJ1=>
Lp [.int .i64] (λ(x1:Int) w5 C0=>
cond (decide ((x1:Int)<(s.n:Int))) (
ixa s x1 1 λa1=>
ldc (.int .u64) w5 a1 λ(v:Int)=>
Jn [] (λJ2=>
Lp [.int .i64] (λ(x2:Int) w6 C1=>
cond (decide ((x2:Int)<(s1.n:Int))) (
ixa s1 x2 1 λa2=>
ldc (.int .u64) w6 a2 λ(v1:Int)=>
bnd (wi (x1+x2)) λn2=>
nck r λa3=>
ldc (.ptr) w6.drew a3 λ(v2:Option Addr)=>
bnd (wi (x1+x2)) λn3=>
ixa s2 n3 1 λa4=>
ldc (.int .u64) w6.drew a4 λ(v3:Int)=>
nck r λa5=>
ldc (.ptr) w6.drew a5 λ(v4:Option Addr)=>
cl Pg F.aV [.pointer v4,.int .u64 v,.int .u64 v1] w6.drew [.one (.int .u64)] λ(r1:Int) w7=>
hld w7 [(a4,.int .u64 v3),(a3,.pointer v2)] <|
cl Pg F.dt [.pointer v2,.int .u64 v3,.int .u64 r1] w7 [.one (.int .u64)] λ(r2:Int) w8=>
ixa s2 n2 1 λa6=>
stc w8 a6 (.int .u64 r2) λw9=>
bnd (wi (x2+1)) λn4=>
C1 n4 w9) (
J2 w6)) 0 w5) fun  w10=>
bnd (wi (x1+1)) λn5=>
C0 n5 w10) (
J1 w5)) 0 w4) fun  w11=>
cl Pg F.eW [s2.v] w11 [.one .slice] λ(s3:Sl) w12=>
R (s3.v) w12)
theorem Ct.cU(h:Sh.cU r a b (Rt X [.one .slice] K w) w.here):Ct Pg F.cU [.pointer r,a.v,b.v] w X [.one .slice] K:=
 cod (Sh.cU r a b) 74 [] [] [(0,2,[(25,.one .bool)]),(2,0,[]),(3,6,[(35,.one (.int .i64))]),(2,2,[]),(3,9,[(42,.one (.int .i64))])] f177 h
def Sh.eW(a:Sl)(R:Value→TW→Prop)(w:TW):Prop:=
Jn [.slice] (λJ0=>
Lp [.slice] (λ(a1:Sl) w1 C0=>
Jn [.bool] (λJ1=>
cond (decide (((a1.n:Int):Int)>0)) (
bnd (wi ((a1.n:Int)-1)) λn=>
ixa a1 n 1 λa2=>
ldc (.int .u64) w1 a2 λ(v:Int)=>
J1 ((v:Int) == 0) w1) (
J1 false w1)) λ(x:Bool) w2=>
cond x (
bnd (wi ((a1.n:Int)-1)) λn1=>
slc a1 0 n1 1 λs=>
C0 s w2) (
J0 a1 w2)) a w) λ(a3:Sl) w3=>
R (a3.v) w3
theorem Ct.eW(h:Sh.eW a (Rt X [.one .slice] K w) w.here):Ct Pg F.eW [a.v] w X [.one .slice] K:=
 cod (Sh.eW a) 21 [] [] [(2,0,[(0,.one .slice)]),(3,1,[(0,.one .slice)]),(0,1,[(14,.one .bool)])] f206 h
def Sh.aQ(r:Option Addr)(l:Sl)(R:Value→TW→Prop)(w:TW):Prop:=
Jn [.int .i64] (λJ0=>
Lp [.int .i64,.int .i64] (λ(n:Int)(x:Int) w1 C0=>
cond (decide ((x:Int)<(l.n:Int))) (
ixa l x 1 λa=>
ldc (.slice) w1 a λ(v:Sl)=>
bnd (if ((v.n:Int):Int)>n then (v.n:Int) else n) λn1=>
bnd (wi (x+1)) λn2=>
C0 n1 n2 w1) (
J0 n w1)) 0 0 w) λ(n3:Int) w2=>
mks w2 n3 n3 T.ao 8 [.int .u64 0] λs w3=>
Jn [] (λJ1=>
Lp [.int .i64] (λ(x1:Int) w4 C1=>
cond (decide ((x1:Int)<(l.n:Int))) (
ixa l x1 1 λa1=>
ldc (.slice) w4 a1 λ(v1:Sl)=>
Jn [] (λJ2=>
Lp [.int .i64] (λ(x2:Int) w5 C2=>
cond (decide ((x2:Int)<(v1.n:Int))) (
ixa v1 x2 1 λa2=>
ldc (.int .u64) w5 a2 λ(v2:Int)=>
nck r λa3=>
ldc (.ptr) w5.drew a3 λ(v3:Option Addr)=>
ixa s x2 1 λa4=>
ldc (.int .u64) w5.drew a4 λ(v4:Int)=>
cl Pg F.dt [.pointer v3,.int .u64 v4,.int .u64 v2] w5.drew [.one (.int .u64)] λ(r1:Int) w6=>
ixa s x2 1 λa5=>
stc w6 a5 (.int .u64 r1) λw7=>
bnd (wi (x2+1)) λn4=>
C2 n4 w7) (
J2 w5)) 0 w4) fun  w8=>
bnd (wi (x1+1)) λn5=>
C1 n5 w8) (
J1 w4)) 0 w3) fun  w9=>
cl Pg F.eW [s.v] w9 [.one .slice] λ(s1:Sl) w10=>
R (s1.v) w10
theorem Ct.aQ{l:Sl}(h:Sh.aQ r l (Rt X [.one .slice] K w) w.here):Ct Pg F.aQ [.pointer r,l.v] w X [.one .slice] K:=
 cod (Sh.aQ r l) 56 [] [] [(2,0,[(5,.one (.int .i64))]),(3,3,[(5,.one (.int .i64)),(15,.one (.int .i64))]),(2,2,[]),(3,9,[(28,.one (.int .i64))]),(2,4,[]),(3,12,[(34,.one (.int .i64))])] f209 h
def Sh.dO(r:Option Addr)(a:Sl)(b:Sl)(R:Value→TW→Prop)(w:TW):Prop:=
bnd (if ((b.n:Int):Int)>(a.n:Int) then (b.n:Int) else (a.n:Int)) λn=>
mks w n n T.ao 8 [.int .u64 0] λs w1=>
Jn [] (λJ0=>
Lp [.int .i64] (λ(x:Int) w2 C0=>
cond (decide ((x:Int)<(s.n:Int))) (
nck r λa1=>
ldc (.ptr) w2.drew a1 λ(v:Option Addr)=>
cl Pg F.jl [a.v,.int .i64 x] w2.drew [.one (.int .u64)] λ(r1:Int) w3=>
hld w3 [(a1,.pointer v)] <|
cl Pg F.jl [b.v,.int .i64 x] w3 [.one (.int .u64)] λ(r2:Int) w4=>
hld w4 [(a1,.pointer v)] <|
cl Pg F.eP [.pointer v,.int .u64 r1,.int .u64 r2] w4 [.one (.int .u64)] λ(r3:Int) w5=>
ixa s x 1 λa2=>
stc w5 a2 (.int .u64 r3) λw6=>
bnd (wi (x+1)) λn1=>
C0 n1 w6) (
J0 w2)) 0 w1) fun  w7=>
cl Pg F.eW [s.v] w7 [.one .slice] λ(s1:Sl) w8=>
R (s1.v) w8
theorem Ct.dO(h:Sh.dO r a b (Rt X [.one .slice] K w) w.here):Ct Pg F.dO [.pointer r,a.v,b.v] w X [.one .slice] K:=
 cod (Sh.dO r a b) 37 [] [] [(2,0,[]),(3,3,[(17,.one (.int .i64))])] f211 h
def Sh.jl(a:Sl)(i:Int)(R:Value→TW→Prop)(w:TW):Prop:=
cond (decide ((i:Int)<(a.n:Int))) (
ixa a i 1 λa1=>
ldc (.int .u64) w a1 λ(v:Int)=>
R (.int .u64 v) w) (
R (.int .u64 0) w)
theorem Ct.jl{i:Int}{K:KT [.one (.int .u64)]}(h:Sh.jl a i (Rt X [.one (.int .u64)] K w) w.here):Ct Pg F.jl [a.v,.int .i64 i] w X [.one (.int .u64)] K:=
 cod (Sh.jl a i) 13 [] [] [] f235 h
end
section
set_option maxRecDepth 100000
open Go.Proofs.Tryz
variable {a a0 b c0:Sl} {w:TW} {X:Nat→Prop} {K:KT [.one .slice]} {e0:Option Addr} {a1:Bool} {p:Int}
def Sh.bp(a:Sl)(R:Value→TW→Prop)(w:TW):Prop:=
mks w (a.n:Int) (a.n:Int) T.af 32 [.slice none 0 0,.bool false] λs w1=>
Jn [] (λJ0=>
Lp [.int .i64] (λ(x:Int) w2 C0=>
cond (decide ((x:Int)<(a.n:Int))) (
ixa a x 2 λa1=>
ldc (.slice) w2 (a1.add 0) λ(v:Sl)=>
ldc (.bool) w2 (a1.add 1) λ(v1:Bool)=>
nwv w2 λw3=>
nwv w3 λw4=>
cl Pg F.il [.agg #[v.v,.bool v1]] w4 [.agg [.slice,.bool]] λ(r:Sl)(r1:Bool) w5=>
ixa s x 2 λa2=>
stc w5 a2 r.v λw6=>
stc w6 (a2.add 1) (.bool r1) λw7=>
bnd (wi (x+1)) λn=>
C0 n w7) (
J0 w2)) 0 w1) fun  w8=>
cl Pg F.cO [s.v] w8 [.one .slice] λ(s1:Sl) w9=>
R (s1.v) w9
theorem Ct.bp(h:Sh.bp a (Rt X [.one .slice] K w) w.here):Ct Pg F.bp [a.v] w X [.one .slice] K:=
 cod (Sh.bp a) 24 [(5,24)] [(24,2)] [(2,0,[]),(3,3,[(11,.one (.int .i64))])] f54 h
def Sh.cD(e0:Option Addr)(a:Sl)(c0:Sl)(c1:Bool)(R:Value→TW→Prop)(w:TW):Prop:=
nwv w λw1=>
cl Pg F.az [c0.v] w1 [.one .bool] λ(ok:Bool) w2=>
cond ok (
R (.tuple #[.slice none 0 0,.int .i64 2]) w2) (
cl Pg F.cO [a.v] w2 [.one .slice] λ(s:Sl) w3=>
Jn [.slice] (λJ0=>
Lp [.slice,.int .i64,.slice,.bool] (λ(out:Sl)(x:Int)(c2:Sl)(c3:Bool) w4 C0=>
cond (decide ((x:Int)<(s.n:Int))) (
ixa s x 2 λa1=>
ldc (.slice) w4 (a1.add 0) λ(v:Sl)=>
ldc (.bool) w4 (a1.add 1) λ(v1:Bool)=>
nwv w4 λw5=>
nwv w5 λw6=>
nck e0 λa2=>
ldc (.ptr) w6.drew a2 λ(v2:Option Addr)=>
nck v2 λa3=>
ldc (.ptr) w6.drew a3 λ(v3:Option Addr)=>
nck v3 λa4=>
ldc (.ptr) w6.drew a4 λ(v4:Option Addr)=>
nck v4 λa5=>
ldc (.ptr) w6.drew a5 λ(v5:Option Addr)=>
nck v5 λa6=>
ldc (.ptr) w6.drew a6 λ(v6:Option Addr)=>
(cl Pg F.ay [.pointer v6,.agg #[v.v,.bool v1],.agg #[c2.v,.bool c3]] w6.drew [.agg [.slice,.bool],.one (.int .i64)] λ(r:Sl)(r1:Bool)(r2:Int) w7=>
hld w7 [(a5,.pointer v5),(a4,.pointer v4),(a3,.pointer v3),(a2,.pointer v2)] <|
nwv w7 λw8=>
hld w8 [(a5,.pointer v5),(a4,.pointer v4),(a3,.pointer v3),(a2,.pointer v2)] <|
nwv w8 λw9=>
cond ((r2:Int) != 0) (
R (.tuple #[.slice none 0 0,.int .i64 r2]) w9) (
nwb w9 [r.v,.bool r1] T.af λb w10=>
apd w10 T.af 2 32 out ⟨(some ⟨b,0,none⟩),1,1⟩ λs1 w11=>
bnd (wi (x+1)) λn=>
C0 s1 n c2 c3 w11))∧
(nwv w6.drew λw12=>
hld w12 [(a6,.pointer v6),(a5,.pointer v5),(a4,.pointer v4),(a3,.pointer v3),(a2,.pointer v2)] <|
cl Pg F.ay [.pointer v6,.agg #[v.v,.bool v1],.agg #[c2.v,.bool c3]] w12 [.agg [.slice,.bool],.one (.int .i64)] λ(r3:Sl)(r4:Bool)(r5:Int) w13=>
hld w13 [(a5,.pointer v5),(a4,.pointer v4),(a3,.pointer v3),(a2,.pointer v2)] <|
nwv w13 λw14=>
cond ((r5:Int) != 0) (
R (.tuple #[.slice none 0 0,.int .i64 r5]) w14) (
nwb w14 [r3.v,.bool r4] T.af λb1 w15=>
apd w15 T.af 2 32 out ⟨(some ⟨b1,0,none⟩),1,1⟩ λs2 w16=>
bnd (wi (x+1)) λn1=>
C0 s2 n1 c2 c3 w16))) (
J0 out w4)) Sl.nil 0 c0 c1 w3) λ(out1:Sl) w17=>
R (.tuple #[out1.v,.int .i64 0]) w17)
theorem Ct.cD{c1:Bool}{K:KT [.one .slice,.one (.int .i64)]}(h:Sh.cD e0 a c0 c1 (Rt X [.one .slice,.one (.int .i64)] K w) w.here):Ct Pg F.cD [.pointer e0,a.v,.agg #[c0.v,.bool c1]] w X [.one .slice,.one (.int .i64)] K:=
 cod (Sh.cD e0 a c0 c1) 54 [(5,54),(10,56),(11,58)] [(54,2),(56,2),(58,2)] [(2,0,[(8,.one .slice)]),(3,5,[(8,.one .slice),(19,.one (.int .i64)),(54,.one .slice),(55,.one .bool)])] f56 h
def Sh.fA(l:Sl)(R:Value→TW→Prop)(w:TW):Prop:=
Jn [.slice] (λJ0=>
Lp [.slice,.int .i64] (λ(out:Sl)(x:Int) w1 C0=>
cond (decide ((x:Int)<(l.n:Int))) (
ixa l x 1 λa=>
ldc (.slice) w1 a λ(v:Sl)=>
Jn [.slice] (λJ1=>
Lp [.slice,.int .i64] (λ(out1:Sl)(x1:Int) w2 C1=>
cond (decide ((x1:Int)<(v.n:Int))) (
ixa v x1 2 λa1=>
ldc (.slice) w2 (a1.add 0) λ(v1:Sl)=>
ldc (.bool) w2 (a1.add 1) λ(v2:Bool)=>
nwv w2 λw3=>
nwv w3 λw4=>
Jn [.slice,.slice,.bool] (λJ2=>
cond ((x1:Int) == (out1.n:Int)) (
nwb w4 [.slice none 0 0,.bool false] T.af λb w5=>
apd w5 T.af 2 32 out1 ⟨(some ⟨b,0,none⟩),1,1⟩ λs w6=>
J2 s v1 v2 w6) (
J2 out1 v1 v2 w4)) λ(out2:Sl)(c:Sl)(c1:Bool) w7=>
ixa out2 x1 2 λa2=>
ldc (.slice) w7.drew (a2.add 0) λ(v3:Sl)=>
ldc (.bool) w7.drew (a2.add 1) λ(v4:Bool)=>
cl Pg F.iW [.agg #[v3.v,.bool v4],.agg #[c.v,.bool c1]] w7.drew [.agg [.slice,.bool]] λ(r:Sl)(r1:Bool) w8=>
ixa out2 x1 2 λa3=>
stc w8 a3 r.v λw9=>
stc w9 (a3.add 1) (.bool r1) λw10=>
bnd (wi (x1+1)) λn=>
C1 out2 n w10) (
J1 out1 w2)) out 0 w1) λ(out3:Sl) w11=>
bnd (wi (x+1)) λn1=>
C0 out3 n1 w11) (
J0 out w1)) Sl.nil 0 w) λ(out4:Sl) w12=>
cl Pg F.cO [out4.v] w12 [.one .slice] λ(s1:Sl) w13=>
R (s1.v) w13
theorem Ct.fA{l:Sl}(h:Sh.fA l (Rt X [.one .slice] K w) w.here):Ct Pg F.fA [l.v] w X [.one .slice] K:=
 cod (Sh.fA l) 42 [(7,42)] [(42,2)] [(2,0,[(3,.one .slice)]),(3,3,[(3,.one .slice),(10,.one (.int .i64))]),(2,2,[(3,.one .slice)]),(3,6,[(3,.one .slice),(16,.one (.int .i64))]),(1,9,[(3,.one .slice),(42,.one .slice),(43,.one .bool)])] f73 h
def Sh.bn(e0:Option Addr)(a:Sl)(c0:Sl)(c1:Bool)(R:Value→TW→Prop)(w:TW):Prop:=
nwv w λw1=>
mks w1 (a.n:Int) (a.n:Int) T.af 32 [.slice none 0 0,.bool false] λs w2=>
Jn [] (λJ0=>
Lp [.int .i64,.slice,.bool] (λ(x:Int)(c2:Sl)(c3:Bool) w3 C0=>
cond (decide ((x:Int)<(a.n:Int))) (
ixa a x 2 λa1=>
ldc (.slice) w3 (a1.add 0) λ(v:Sl)=>
ldc (.bool) w3 (a1.add 1) λ(v1:Bool)=>
nwv w3 λw4=>
nwv w4 λw5=>
cl Pg F.bA [.pointer e0,.agg #[v.v,.bool v1],.agg #[c2.v,.bool c3]] w5 [.agg [.slice,.bool]] λ(r:Sl)(r1:Bool) w6=>
ixa s x 2 λa2=>
stc w6 a2 r.v λw7=>
stc w7 (a2.add 1) (.bool r1) λw8=>
bnd (wi (x+1)) λn=>
C0 n c2 c3 w8) (
J0 w3)) 0 c0 c1 w2) fun  w9=>
cl Pg F.cO [s.v] w9 [.one .slice] λ(s1:Sl) w10=>
R (s1.v) w10
theorem Ct.bn{c1:Bool}(h:Sh.bn e0 a c0 c1 (Rt X [.one .slice] K w) w.here):Ct Pg F.bn [.pointer e0,a.v,.agg #[c0.v,.bool c1]] w X [.one .slice] K:=
 cod (Sh.bn e0 a c0 c1) 30 [(5,30),(9,32)] [(30,2),(32,2)] [(2,0,[]),(3,3,[(15,.one (.int .i64)),(30,.one .slice),(31,.one .bool)])] f74 h
def Sh.ef(a:Sl)(b:Sl)(R:Value→TW→Prop)(w:TW):Prop:=
bnd (if ((b.n:Int):Int)>(a.n:Int) then (b.n:Int) else (a.n:Int)) λn=>
mks w n n T.af 32 [.slice none 0 0,.bool false] λs w1=>
Jn [] (λJ0=>
Lp [.int .i64] (λ(x:Int) w2 C0=>
cond (decide ((x:Int)<(s.n:Int))) (
cl Pg F.jk [a.v,.int .i64 x] w2 [.agg [.slice,.bool]] λ(r:Sl)(r1:Bool) w3=>
cl Pg F.jk [b.v,.int .i64 x] w3 [.agg [.slice,.bool]] λ(r2:Sl)(r3:Bool) w4=>
cl Pg F.jJ [.agg #[r.v,.bool r1],.agg #[r2.v,.bool r3]] w4 [.agg [.slice,.bool]] λ(r4:Sl)(r5:Bool) w5=>
ixa s x 2 λa1=>
stc w5 a1 r4.v λw6=>
stc w6 (a1.add 1) (.bool r5) λw7=>
bnd (wi (x+1)) λn1=>
C0 n1 w7) (
J0 w2)) 0 w1) fun  w8=>
cl Pg F.cO [s.v] w8 [.one .slice] λ(s1:Sl) w9=>
R (s1.v) w9
theorem Ct.ef(h:Sh.ef a b (Rt X [.one .slice] K w) w.here):Ct Pg F.ef [a.v,b.v] w X [.one .slice] K:=
 cod (Sh.ef a b) 31 [] [] [(2,0,[]),(3,3,[(15,.one (.int .i64))])] f79 h
def Sh.jT(t:HL I11)(R:Value→TW→Prop)(w:TW):Prop:=
nwv w λw1=>
cl Pg F.jB [.agg (aT I11 t).toArray] w1 [.one .ptr] λ(p:Option Addr) w2=>
nwb w2 [.pointer p] T.uB λb w3=>
R (.pointer (some ⟨b,0,none⟩)) w3
theorem Ct.jT{t:HL I11}{K:KT [.one .ptr]}(h:Sh.jT t (Rt X [.one .ptr] K w) w.here):Ct Pg F.jT [.agg (aT I11 t).toArray] w X [.one .ptr] K:=
 cod (Sh.jT t) 7 [(1,7)] [(7,11)] [] f86 h
def Sh.cO(a:Sl)(R:Value→TW→Prop)(w:TW):Prop:=
Jn [.slice] (λJ0=>
Lp [.slice] (λ(a1:Sl) w1 C0=>
Jn [.bool] (λJ1=>
cond (decide (((a1.n:Int):Int)>0)) (
bnd (wi ((a1.n:Int)-1)) λn=>
ixa a1 n 2 λa2=>
ldc (.slice) w1 a2 λ(v:Sl)=>
cl Pg F.az [v.v] w1 [.one .bool] λ(ok:Bool) w2=>
J1 ok w2) (
J1 false w1)) λ(x:Bool) w3=>
cond x (
bnd (wi ((a1.n:Int)-1)) λn1=>
slc a1 0 n1 2 λs=>
C0 s w3) (
J0 a1 w3)) a w) λ(a3:Sl) w4=>
R (a3.v) w4
theorem Ct.cO(h:Sh.cO a (Rt X [.one .slice] K w) w.here):Ct Pg F.cO [a.v] w X [.one .slice] K:=
 cod (Sh.cO a) 22 [] [] [(2,0,[(0,.one .slice)]),(3,1,[(0,.one .slice)]),(0,1,[(15,.one .bool)])] f88 h
def Sh.iI(a:Sl)(R:Value→TW→Prop)(w:TW):Prop:=
cl Pg F.cO [a.v] w [.one .slice] λ(s:Sl) w1=>
bnd (wi ((s.n:Int)-1)) λn=>
R (.int .i64 n) w1
theorem Ct.iI{K:KT [.one (.int .i64)]}(h:Sh.iI a (Rt X [.one (.int .i64)] K w) w.here):Ct Pg F.iI [a.v] w X [.one (.int .i64)] K:=
 cod (Sh.iI a) 7 [] [] [] f95 h
def Sh.cE(e0:Option Addr)(a:Sl)(b:Sl)(R:Value→TW→Prop)(w:TW):Prop:=
cl Pg F.cO [a.v] w [.one .slice] λ(s:Sl) w1=>
cl Pg F.cO [b.v] w1 [.one .slice] λ(s1:Sl) w2=>
Jn [.bool] (λJ0=>
cond (((s.n:Int):Int) == 0) (
J0 true w2) (
J0 (((s1.n:Int):Int) == 0) w2)) λ(x:Bool) w3=>
cond x (
R (.slice none 0 0) w3) (
bnd (wi ((s.n:Int)+(s1.n:Int))) λn=>
bnd (wi (n-1)) λn1=>
mks w3 n1 n1 T.af 32 [.slice none 0 0,.bool false] λs2 w4=>
Jn [] (λJ1=>
Lp [.int .i64] (λ(x1:Int) w5 C0=>
cond (decide ((x1:Int)<(s.n:Int))) (
ixa s x1 2 λa1=>
ldc (.slice) w5 (a1.add 0) λ(v:Sl)=>
ldc (.bool) w5 (a1.add 1) λ(v1:Bool)=>
nwv w5 λw6=>
nwv w6 λw7=>
Jn [] (λJ2=>
Lp [.int .i64,.slice,.bool] (λ(x2:Int)(x3:Sl)(x4:Bool) w8 C1=>
cond (decide ((x2:Int)<(s1.n:Int))) (
ixa s1 x2 2 λa2=>
ldc (.slice) w8 (a2.add 0) λ(v2:Sl)=>
ldc (.bool) w8 (a2.add 1) λ(v3:Bool)=>
nwv w8 λw9=>
nwv w9 λw10=>
bnd (wi (x1+x2)) λn2=>
bnd (wi (x1+x2)) λn3=>
ixa s2 n3 2 λa3=>
ldc (.slice) w10.drew (a3.add 0) λ(v4:Sl)=>
ldc (.bool) w10.drew (a3.add 1) λ(v5:Bool)=>
cl Pg F.bA [.pointer e0,.agg #[x3.v,.bool x4],.agg #[v2.v,.bool v3]] w10.drew [.agg [.slice,.bool]] λ(r:Sl)(r1:Bool) w11=>
hld w11 [(a3.add 0,v4.v),(a3.add 1,.bool v5)] <|
cl Pg F.iW [.agg #[v4.v,.bool v5],.agg #[r.v,.bool r1]] w11 [.agg [.slice,.bool]] λ(r2:Sl)(r3:Bool) w12=>
ixa s2 n2 2 λa4=>
stc w12 a4 r2.v λw13=>
stc w13 (a4.add 1) (.bool r3) λw14=>
bnd (wi (x2+1)) λn4=>
C1 n4 x3 x4 w14) (
J2 w8)) 0 v v1 w7) fun  w15=>
bnd (wi (x1+1)) λn5=>
C0 n5 w15) (
J1 w5)) 0 w4) fun  w16=>
cl Pg F.cO [s2.v] w16 [.one .slice] λ(s3:Sl) w17=>
R (s3.v) w17)
theorem Ct.cE(h:Sh.cE e0 a b (Rt X [.one .slice] K w) w.here):Ct Pg F.cE [.pointer e0,a.v,b.v] w X [.one .slice] K:=
 cod (Sh.cE e0 a b) 65 [(9,65),(11,67)] [(65,2),(67,2)] [(0,2,[(23,.one .bool)]),(2,0,[]),(3,6,[(33,.one (.int .i64))]),(2,2,[]),(3,9,[(40,.one (.int .i64)),(65,.one .slice),(66,.one .bool)])] f96 h
def Sh.bA(e0:Option Addr)(a0:Sl)(a1:Bool)(b0:Sl)(b1:Bool)(R:Value→TW→Prop)(w:TW):Prop:=
nwv w λw1=>
nwv w1 λw2=>
nwv w2 λw3=>
nck e0 λa2=>
ldc (.ptr) w3.drew a2 λ(v:Option Addr)=>
nck v λa3=>
ldc (.ptr) w3.drew a3 λ(v1:Option Addr)=>
nck v1 λa4=>
ldc (.ptr) w3.drew a4 λ(v2:Option Addr)=>
nck v2 λa5=>
ldc (.ptr) w3.drew a5 λ(v3:Option Addr)=>
nck v3 λa6=>
ldc (.ptr) w3.drew a6 λ(v4:Option Addr)=>
nck v4 λa7=>
ldc (.ptr) w3.drew a7 λ(v5:Option Addr)=>
nck v5 λa8=>
ldc (.ptr) w3.drew a8 λ(v6:Option Addr)=>
nck v6 λa9=>
ldc (.ptr) w3.drew a9 λ(v7:Option Addr)=>
nck v7 λa10=>
ldc (.ptr) w3.drew a10 λ(v8:Option Addr)=>
nck v8 λa11=>
ldc (.ptr) w3.drew a11 λ(v9:Option Addr)=>
nck v9 λa12=>
ldc (.ptr) w3.drew a12 λ(v10:Option Addr)=>
cl Pg F.bv [.pointer v10,a0.v,b0.v] w3.drew [.one .slice] λ(s:Sl) w4=>
hld w4 [(a11,.pointer v9),(a10,.pointer v8),(a9,.pointer v7),(a8,.pointer v6),(a7,.pointer v5),(a6,.pointer v4),(a5,.pointer v3),(a4,.pointer v2),(a3,.pointer v1),(a2,.pointer v)] <|
Jn [.slice,.bool] (λJ0=>
cond (!(a1 == b1)) (
cl Pg F.az [s.v] w4 [.one .bool] λ(ok:Bool) w5=>
nwv w5 λw6=>
J0 s (!ok) w6) (
nwv w4 λw7=>
J0 s false w7)) λ(x:Sl)(x1:Bool) w8=>
R (.agg #[x.v,.bool x1]) w8
theorem Ct.bA{b0:Sl}{b1:Bool}{K:KT [.agg [.slice,.bool]]}(h:Sh.bA e0 a0 a1 b0 b1 (Rt X [.agg [.slice,.bool]] K w) w.here):Ct Pg F.bA [.pointer e0,.agg #[a0.v,.bool a1],.agg #[b0.v,.bool b1]] w X [.agg [.slice,.bool]] K:=
 cod (Sh.bA e0 a0 a1 b0 b1) 59 [(4,59),(5,61),(6,63)] [(59,2),(61,2),(63,2)] [(0,2,[(63,.one .slice),(64,.one .bool)])] f104 h
def Sh.jk(a:Sl)(i:Int)(R:Value→TW→Prop)(w:TW):Prop:=
nwv w λw1=>
cond (decide ((i:Int)<(a.n:Int))) (
ixa a i 2 λa1=>
ldc (.slice) w1 (a1.add 0) λ(v:Sl)=>
ldc (.bool) w1 (a1.add 1) λ(v1:Bool)=>
nwv w1 λw2=>
R (.agg #[v.v,.bool v1]) w2) (
nwv w1 λw3=>
R (.agg #[.slice none 0 0,.bool false]) w3)
theorem Ct.jk{i:Int}{K:KT [.agg [.slice,.bool]]}(h:Sh.jk a i (Rt X [.agg [.slice,.bool]] K w) w.here):Ct Pg F.jk [a.v,.int .i64 i] w X [.agg [.slice,.bool]] K:=
 cod (Sh.jk a i) 14 [(4,14)] [(14,2)] [] f106 h
def Sh.fo(a:Sl)(R:Value→TW→Prop)(w:TW):Prop:=
Jn [.int .i64] (λJ0=>
Lp [.int .i64,.int .i64] (λ(n:Int)(x:Int) w1 C0=>
cond (decide ((x:Int)<(a.n:Int))) (
ixa a x 2 λa1=>
ldc (.slice) w1 (a1.add 0) λ(v:Sl)=>
ldc (.bool) w1 (a1.add 1) λ(_:Bool)=>
nwv w1 λw2=>
nwv w2 λw3=>
cl Pg F.cd [v.v] w3 [.one (.int .i64)] λ(r:Int) w4=>
bnd (if (r:Int)>n then r else n) λn1=>
bnd (wi (x+1)) λn2=>
C0 n1 n2 w4) (
J0 n w1)) 0 0 w) λ(n3:Int) w5=>
R (.int .i64 n3) w5
theorem Ct.fo{K:KT [.one (.int .i64)]}(h:Sh.fo a (Rt X [.one (.int .i64)] K w) w.here):Ct Pg F.fo [a.v] w X [.one (.int .i64)] K:=
 cod (Sh.fo a) 19 [(5,19)] [(19,2)] [(2,0,[(3,.one (.int .i64))]),(3,3,[(3,.one (.int .i64)),(8,.one (.int .i64))])] f138 h
def Sh.fm(a:Sl)(p:Int)(R:Value→TW→Prop)(w:TW):Prop:=
Jn [.bool] (λJ0=>
cond (decide ((p:Int)<2)) (
J0 true w) (
J0 (decide ((p:Int)≥4611686018427387904)) w)) λ(x:Bool) w1=>
cond x (
R (.tuple #[.slice none 0 0,.int .i64 3]) w1) (
mks w1 (a.n:Int) (a.n:Int) T.ao 8 [.int .u64 0] λs w2=>
Jn [] (λJ1=>
Lp [.int .i64] (λ(x1:Int) w3 C0=>
cond (decide ((x1:Int)<(a.n:Int))) (
ixa a x1 2 λa1=>
ldc (.slice) w3 (a1.add 0) λ(v:Sl)=>
ldc (.bool) w3 (a1.add 1) λ(v1:Bool)=>
nwv w3 λw4=>
nwv w4 λw5=>
cl Pg F.fz [.agg #[v.v,.bool v1],.int .u64 p] w5 [.one (.int .u64)] λ(r:Int) w6=>
ixa s x1 1 λa2=>
stc w6 a2 (.int .u64 r) λw7=>
bnd (wi (x1+1)) λn=>
C0 n w7) (
J1 w3)) 0 w2) fun  w8=>
Jn [.slice] (λJ2=>
Lp [.slice] (λ(out:Sl) w9 C1=>
Jn [.bool] (λJ3=>
cond (decide (((out.n:Int):Int)>0)) (
bnd (wi ((out.n:Int)-1)) λn1=>
ixa out n1 1 λa3=>
ldc (.int .u64) w9 a3 λ(v2:Int)=>
J3 ((v2:Int) == 0) w9) (
J3 false w9)) λ(x2:Bool) w10=>
cond x2 (
bnd (wi ((out.n:Int)-1)) λn2=>
slc out 0 n2 1 λs1=>
C1 s1 w10) (
J2 out w10)) s w8) λ(out1:Sl) w11=>
R (.tuple #[out1.v,.int .i64 0]) w11)
theorem Ct.fm{K:KT [.one .slice,.one (.int .i64)]}(h:Sh.fm a p (Rt X [.one .slice,.one (.int .i64)] K w) w.here):Ct Pg F.fm [a.v,.int .u64 p] w X [.one .slice,.one (.int .i64)] K:=
 cod (Sh.fm a p) 50 [(8,50)] [(50,2)] [(0,1,[(14,.one .bool)]),(2,0,[]),(3,5,[(20,.one (.int .i64))]),(2,2,[(6,.one .slice)]),(3,9,[(6,.one .slice)]),(0,9,[(43,.one .bool)])] f144 h
def Sh.fz(a0:Sl)(a1:Bool)(p:Int)(R:Value→TW→Prop)(w:TW):Prop:=
nwv w λw1=>
cl Pg F.dx [a0.v,.int .u64 p] w1 [.one .slice,.one (.int .u64),.one (.int .i64)] λ(_:Sl)(r:Int)(_:Int) w2=>
Jn [.bool] (λJ0=>
cond a1 (
J0 (decide ((r:Int)>0)) w2) (
J0 false w2)) λ(x:Bool) w3=>
Jn [.int .u64] (λJ1=>
cond x (
bnd (wu (p-r)) λn=>
J1 n w3) (
J1 r w3)) λ(r2:Int) w4=>
R (.int .u64 r2) w4
theorem Ct.fz{K:KT [.one (.int .u64)]}(h:Sh.fz a0 a1 p (Rt X [.one (.int .u64)] K w) w.here):Ct Pg F.fz [.agg #[a0.v,.bool a1],.int .u64 p] w X [.one (.int .u64)] K:=
 cod (Sh.fz a0 a1 p) 26 [(2,26)] [(26,2)] [(0,2,[(21,.one .bool)]),(1,3,[(6,.one (.int .u64))])] f174 h
end
section
set_option maxRecDepth 100000
open Go.Proofs.Tryz
def Sh.jz(t:HL I11)(R:Value→TW→Prop)(w:TW):Prop:=
nwv w λw1=>
cl Pg F.kA [.agg (aT I11 t).toArray] w1 [.one .ptr] λ(p:Option Addr) w2=>
nwb w2 [.pointer p] T.uA λb w3=>
R (.pointer (some ⟨b,0,none⟩)) w3
theorem Ct.jz{t:HL I11}{w:TW}{X:Nat→Prop}{K:KT [.one .ptr]}(h:Sh.jz t (Rt X [.one .ptr] K w) w.here):Ct Pg F.jz [.agg (aT I11 t).toArray] w X [.one .ptr] K:=
 cod (Sh.jz t) 7 [(1,7)] [(7,11)] [] f198 h
end
section
set_option maxRecDepth 100000
open Go.Proofs.Tryz
variable {a n p:Int} {w:TW} {X:Nat→Prop} {K:KT [.one .bool]}
def Sh.jj(n:Int)(R:Value→TW→Prop)(w:TW):Prop:=
cond (decide ((n:Int)<2)) (
R (.bool false) w) (
nwv w λw1=>
nwv w1 λw2=>
Jn [.int .u64,.int .u64,.int .u64,.int .u64,.int .u64,.int .u64,.int .u64,.int .u64,.int .u64,.int .u64,.int .u64,.int .u64] (λJ0=>
Lp [.int .i64,.int .u64,.int .u64,.int .u64,.int .u64,.int .u64,.int .u64,.int .u64,.int .u64,.int .u64,.int .u64,.int .u64,.int .u64] (λ(x:Int)(small:Int)(small1:Int)(small2:Int)(small3:Int)(small4:Int)(small5:Int)(small6:Int)(small7:Int)(small8:Int)(small9:Int)(small10:Int)(small11:Int) w3 C0=>
cond (decide ((x:Int)<12)) (
inr x 12 (ixq (.int .u64) [.int .u64 2,.int .u64 3,.int .u64 5,.int .u64 7,.int .u64 11,.int .u64 13,.int .u64 17,.int .u64 19,.int .u64 23,.int .u64 29,.int .u64 31,.int .u64 37] (Int.toNat x*1) λ(v:Int)=>
dY n v λn1=>
cond ((n1:Int) == 0) (
R (.bool ((n:Int) == v)) w3) (
bnd (wi (x+1)) λn2=>
C0 n2 small small1 small2 small3 small4 small5 small6 small7 small8 small9 small10 small11 w3))) (
J0 small small1 small2 small3 small4 small5 small6 small7 small8 small9 small10 small11 w3)) 0 2 3 5 7 11 13 17 19 23 29 31 37 w2) λ(small12:Int)(small13:Int)(small14:Int)(small15:Int)(small16:Int)(small17:Int)(small18:Int)(small19:Int)(small20:Int)(small21:Int)(small22:Int)(small23:Int) w4=>
bnd (wu (n-1)) λn3=>
cl Pg F.bB [.int .u64 n3] w4 [.one (.int .i64)] λ(r:Int) w5=>
bnd (wu (n-1)) λn4=>
bnd (wu (r)) λn5=>
gc .u64 n4 n5 λn6=>
Jn [] (λJ1=>
Lp [.int .i64] (λ(x1:Int) w6 C1=>
cond (decide ((x1:Int)<12)) (
inr x1 12 (ixq (.int .u64) [.int .u64 small12,.int .u64 small13,.int .u64 small14,.int .u64 small15,.int .u64 small16,.int .u64 small17,.int .u64 small18,.int .u64 small19,.int .u64 small20,.int .u64 small21,.int .u64 small22,.int .u64 small23] (Int.toNat x1*1) λ(v1:Int)=>
cl Pg F.fy [.int .u64 v1,.int .u64 n,.int .u64 n6,.int .i64 r] w6 [.one .bool] λ(ok:Bool) w7=>
cond ok (
R (.bool false) w7) (
bnd (wi (x1+1)) λn7=>
C1 n7 w7))) (
J1 w6)) 0 w5) fun  w8=>
R (.bool true) w8)
theorem Ct.jj(h:Sh.jj n (Rt X [.one .bool] K w) w.here):Ct Pg F.jj [.int .u64 n] w X [.one .bool] K:=
 cod (Sh.jj n) 43 [(3,43)] [(43,12)] [(2,0,[(43,.one (.int .u64)),(44,.one (.int .u64)),(45,.one (.int .u64)),(46,.one (.int .u64)),(47,.one (.int .u64)),(48,.one (.int .u64)),(49,.one (.int .u64)),(50,.one (.int .u64)),(51,.one (.int .u64)),(52,.one (.int .u64)),(53,.one (.int .u64)),(54,.one (.int .u64))]),(3,5,[(14,.one (.int .i64)),(43,.one (.int .u64)),(44,.one (.int .u64)),(45,.one (.int .u64)),(46,.one (.int .u64)),(47,.one (.int .u64)),(48,.one (.int .u64)),(49,.one (.int .u64)),(50,.one (.int .u64)),(51,.one (.int .u64)),(52,.one (.int .u64)),(53,.one (.int .u64)),(54,.one (.int .u64))]),(2,2,[]),(3,13,[(34,.one (.int .i64))])] f143 h
def Sh.fy(a:Int)(n:Int)(d:Int)(s:Int)(R:Value→TW→Prop)(w:TW):Prop:=
dY a n λn1=>
cl Pg F.i9 [.int .u64 n1,.int .u64 d,.int .u64 n] w [.one (.int .u64)] λ(r:Int) w1=>
Jn [.bool] (λJ0=>
cond ((r:Int) == 0) (
J0 true w1) (
cond ((r:Int) == 1) (
J0 true w1) (
bnd (wu (n-1)) λn2=>
J0 ((r:Int) == n2) w1))) λ(x:Bool) w2=>
cond x (
R (.bool false) w2) (
bnd (wi (s-1)) λn3=>
Jn [] (λJ1=>
Lp [.int .u64,.int .i64] (λ(x1:Int)(x2:Int) w3 C0=>
cond (decide ((x2:Int)<n3)) (
cl Pg F.ic [.int .u64 x1,.int .u64 x1,.int .u64 n] w3 [.one (.int .u64)] λ(r1:Int) w4=>
bnd (wu (n-1)) λn4=>
cond ((r1:Int) == n4) (
R (.bool false) w4) (
bnd (wi (x2+1)) λn5=>
C0 r1 n5 w4)) (
J1 w3)) r 0 w2) fun  w5=>
R (.bool true) w5)
theorem Ct.fy{d:Int}{s:Int}(h:Sh.fy a n d s (Rt X [.one .bool] K w) w.here):Ct Pg F.fy [.int .u64 a,.int .u64 n,.int .u64 d,.int .i64 s] w X [.one .bool] K:=
 cod (Sh.fy a n d s) 41 [] [] [(0,2,[(27,.one .bool)]),(2,0,[]),(3,5,[(9,.one (.int .u64)),(30,.one (.int .i64))])] f173 h
def Sh.i9(a:Int)(k:Int)(n:Int)(R:Value→TW→Prop)(w:TW):Prop:=
dY 1 n λn1=>
Jn [.int .u64] (λJ0=>
Lp [.int .u64,.int .u64,.int .u64] (λ(a1:Int)(k1:Int)(out:Int) w1 C0=>
cond (decide ((k1:Int)>0)) (
dY k1 2 λn2=>
Jn [.int .u64] (λJ1=>
cond ((n2:Int) == 1) (
cl Pg F.ic [.int .u64 out,.int .u64 a1,.int .u64 n] w1 [.one (.int .u64)] λ(r:Int) w2=>
J1 r w2) (
J1 out w1)) λ(out1:Int) w3=>
cl Pg F.ic [.int .u64 a1,.int .u64 a1,.int .u64 n] w3 [.one (.int .u64)] λ(r1:Int) w4=>
eI .u64 k1 2 λn3=>
C0 r1 n3 out1 w4) (
J0 out w1)) a k n1 w) λ(out2:Int) w5=>
R (.int .u64 out2) w5
theorem Ct.i9{k:Int}{K:KT [.one (.int .u64)]}(h:Sh.i9 a k n (Rt X [.one (.int .u64)] K w) w.here):Ct Pg F.i9 [.int .u64 a,.int .u64 k,.int .u64 n] w X [.one (.int .u64)] K:=
 cod (Sh.i9 a k n) 26 [] [] [(2,0,[(7,.one (.int .u64))]),(3,2,[(0,.one (.int .u64)),(1,.one (.int .u64)),(7,.one (.int .u64))]),(1,4,[(7,.one (.int .u64))])] f202 h
def Sh.ic(a:Int)(b:Int)(n:Int)(R:Value→TW→Prop)(w:TW):Prop:=
cl Pg F.aJ [.int .u64 a,.int .u64 b] w [.one (.int .u64),.one (.int .u64)] λ(r:Int)(r1:Int) w1=>
cl Pg F.ez [.int .u64 r,.int .u64 r1,.int .u64 n] w1 [.one (.int .u64),.one (.int .u64)] λ(_:Int)(r3:Int) w2=>
R (.int .u64 r3) w2
theorem Ct.ic{b:Int}{K:KT [.one (.int .u64)]}(h:Sh.ic a b n (Rt X [.one (.int .u64)] K w) w.here):Ct Pg F.ic [.int .u64 a,.int .u64 b,.int .u64 n] w X [.one (.int .u64)] K:=
 cod (Sh.ic a b n) 25 [] [] [] f203 h
def Sh.iH(p:Int)(R:Value→TW→Prop)(w:TW):Prop:=
Jn [.bool] (λJ0=>
dY p 2 λn=>
cond ((n:Int) == 0) (
J0 true w) (
cond (decide ((p:Int)≥4611686018427387904)) (
J0 true w) (
cl Pg F.jj [.int .u64 p] w [.one .bool] λ(ok:Bool) w1=>
J0 (!ok) w1))) λ(x:Bool) w2=>
cond x (
R (.tuple #[.pointer none,.int .i64 3]) w2) (
cl Pg F.im [.int .u64 p] w2 [.one .ptr,.one (.int .i64)] λ(p1:Option Addr)(r:Int) w3=>
R (.tuple #[.pointer p1,.int .i64 r]) w3)
theorem Ct.iH{K:KT [.one .ptr,.one (.int .i64)]}(h:Sh.iH p (Rt X [.one .ptr,.one (.int .i64)] K w) w.here):Ct Pg F.iH [.int .u64 p] w X [.one .ptr,.one (.int .i64)] K:=
 cod (Sh.iH p) 20 [] [] [(0,1,[(15,.one .bool)])] f204 h
def Sh.gz(R:Value→TW→Prop)(w:TW):Prop:=
nwv w λw1=>
nwv w1 λw2=>
R (.agg #[.int .u64 180143985094819841,.int .i64 55,.int .u64 6,.int .u64 1945555039024054273,.int .i64 56,.int .u64 5,.int .u64 4179340454199820289,.int .i64 57,.int .u64 3]) w2
theorem Ct.gz{K:KT [.agg [.int .u64,.int .i64,.int .u64,.int .u64,.int .i64,.int .u64,.int .u64,.int .i64,.int .u64]]}(h:Sh.gz (Rt X [.agg [.int .u64,.int .i64,.int .u64,.int .u64,.int .i64,.int .u64,.int .u64,.int .i64,.int .u64]] K w) w.here):Ct Pg F.gz [] w X [.agg [.int .u64,.int .i64,.int .u64,.int .u64,.int .i64,.int .u64,.int .u64,.int .i64,.int .u64]] K:=
 cod Sh.gz 5 [(0,5)] [(5,9)] [] f261 h
def Sh.iB(p:Int)(log:Int)(R:Value→TW→Prop)(w:TW):Prop:=
cl Pg F.iH [.int .u64 p] w [.one .ptr,.one (.int .i64)] λ(p1:Option Addr)(r:Int) w1=>
cond ((r:Int) != 0) (
R (.tuple #[.int .u64 0,.int .i64 r]) w1) (
Jn [.bool] (λJ0=>
cond (decide ((log:Int)<0)) (
J0 true w1) (
cond (decide ((log:Int)>20)) (
J0 true w1) (
bnd (wu (p-1)) λn=>
bnd (wu (log)) λn1=>
ju .u64 1 n1 λn2=>
dY n n2 λn3=>
J0 ((n3:Int) != 0) w1))) λ(x:Bool) w2=>
cond x (
R (.tuple #[.int .u64 0,.int .i64 1]) w2) (
cond ((log:Int) == 0) (
R (.tuple #[.int .u64 1,.int .i64 0]) w2) (
Jn [.int .u64] (λJ1=>
Lp [.int .u64] (λ(x1:Int) w3 C0=>
bnd (wu (p-1)) λn4=>
eI .u64 n4 2 λn5=>
cl Pg F.fq [.pointer p1,.int .u64 x1,.int .u64 n5] w3 [.one (.int .u64)] λ(r1:Int) w4=>
bnd (wu (p-1)) λn6=>
cond ((r1:Int) != n6) (
bnd (wu (x1+1)) λn7=>
C0 n7 w4) (
J1 x1 w4)) 2 w2) λ(x2:Int) w5=>
bnd (wu (p-1)) λn8=>
bnd (wu (log)) λn9=>
gc .u64 n8 n9 λn10=>
cl Pg F.fq [.pointer p1,.int .u64 x2,.int .u64 n10] w5 [.one (.int .u64)] λ(r2:Int) w6=>
R (.tuple #[.int .u64 r2,.int .i64 0]) w6)))
theorem Ct.iB{log:Int}{K:KT [.one (.int .u64),.one (.int .i64)]}(h:Sh.iB p log (Rt X [.one (.int .u64),.one (.int .i64)] K w) w.here):Ct Pg F.iB [.int .u64 p,.int .i64 log] w X [.one (.int .u64),.one (.int .i64)] K:=
 cod (Sh.iB p log) 53 [] [] [(0,4,[(31,.one .bool)]),(2,0,[(8,.one (.int .u64))]),(3,9,[(8,.one (.int .u64))])] f263 h
end
section
set_option maxRecDepth 100000
open Go.Proofs.Tryz
def Sh.jy(t:HL I11)(R:Value→TW→Prop)(w:TW):Prop:=
nwv w λw1=>
cl Pg F.jS [.agg (aT I11 t).toArray] w1 [.one .ptr] λ(p:Option Addr) w2=>
nwb w2 [.pointer p] T.uz λb w3=>
R (.pointer (some ⟨b,0,none⟩)) w3
theorem Ct.jy{t:HL I11}{w:TW}{X:Nat→Prop}{K:KT [.one .ptr]}(h:Sh.jy t (Rt X [.one .ptr] K w) w.here):Ct Pg F.jy [.agg (aT I11 t).toArray] w X [.one .ptr] K:=
 cod (Sh.jy t) 7 [(1,7)] [(7,11)] [] f251 h
end
section
set_option maxRecDepth 100000
open Go.Proofs.Tryz
def Sh.jx(t:HL I11)(R:Value→TW→Prop)(w:TW):Prop:=
nwv w λw1=>
cl Pg F.jV [.agg (aT I11 t).toArray] w1 [.one .ptr] λ(p:Option Addr) w2=>
nwb w2 [.pointer p] T.uy λb w3=>
R (.pointer (some ⟨b,0,none⟩)) w3
theorem Ct.jx{t:HL I11}{w:TW}{X:Nat→Prop}{K:KT [.one .ptr]}(h:Sh.jx t (Rt X [.one .ptr] K w) w.here):Ct Pg F.jx [.agg (aT I11 t).toArray] w X [.one .ptr] K:=
 cod (Sh.jx t) 7 [(1,7)] [(7,11)] [] f272 h
end
end Go.Proofs.YtpbimnlggalnfaaGreatDoor.Zg
