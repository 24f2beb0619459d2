/- A part of the proofs of this seat's laws. -/
import Derived.Test.YtpbimnlggalnfaaGreatDoorGC
set_option linter.unusedVariables false
set_option linter.unusedSimpArgs false
set_option linter.unnecessarySimpa false
namespace Go.Proofs.YtpbimnlggalnfaaGreatDoor.Zg
open Go.RowKit
section
set_option maxRecDepth 100000
open Go.Proofs.Tryz
variable {e0:Option Addr} {a b l:Sl} {w:TW} {X:Nat→Prop} {K:KT [.one .slice]}
def Sh.ep(e0:Option Addr)(l:Sl)(R:Value→TW→Prop)(w:TW):Prop:=
Jn [.slice] (λJ0=>
Lp [.slice,.int .i64] (λ(g:Sl)(x:Int) w1 C0=>
cond (decide ((x:Int)<(l.n:Int))) (
ixa l x 1 λa=>
ldc (.slice) w1 a λ(v:Sl)=>
cl Pg F.eo [.pointer e0,g.v,v.v] w1 [.one .slice] λ(s:Sl) w2=>
bnd (wi (x+1)) λn=>
C0 s n w2) (
J0 g w1)) Sl.nil 0 w) λ(g1:Sl) w3=>
R (g1.v) w3
theorem Ct.ep(h:Sh.ep e0 l (Rt X [.one .slice] K w) w.here):Ct Pg F.ep [.pointer e0,l.v] w X [.one .slice] K:=
 cod (Sh.ep e0 l) 20 [] [] [(2,0,[(5,.one .slice)]),(3,3,[(5,.one .slice),(10,.one (.int .i64))])] f61 h
def Sh.eX(e0:Option Addr)(l:Sl)(R:Value→TW→Prop)(w:TW):Prop:=
cl Pg F.dk [.int .u64 1] w [.one .slice] λ(s:Sl) w1=>
Jn [.slice] (λJ0=>
Lp [.slice,.int .i64] (λ(out:Sl)(x:Int) w2 C0=>
cond (decide ((x:Int)<(l.n:Int))) (
ixa l x 1 λa=>
ldc (.slice) w2 a λ(v:Sl)=>
cl Pg F.bn [v.v] w2 [.one .bool] λ(ok:Bool) w3=>
cond ok (
R (.slice none 0 0) w3) (
nck e0 λa1=>
ldc (.ptr) w3.drew a1 λ(v1:Option Addr)=>
nck v1 λa2=>
ldc (.ptr) w3.drew a2 λ(v2:Option Addr)=>
nck v2 λa3=>
ldc (.ptr) w3.drew a3 λ(v3:Option Addr)=>
nck v3 λa4=>
ldc (.ptr) w3.drew a4 λ(v4:Option Addr)=>
nck v4 λa5=>
ldc (.ptr) w3.drew a5 λ(v5:Option Addr)=>
cl Pg F.eo [.pointer e0,out.v,v.v] w3.drew [.one .slice] λ(s1:Sl) w4=>
hld w4 [(a5,.pointer v5),(a4,.pointer v4),(a3,.pointer v3),(a2,.pointer v2),(a1,.pointer v1)] <|
cl Pg F.cx [.pointer v5,v.v,s1.v] w4 [.one .slice,.one .slice,.one (.int .i64)] λ(s2:Sl)(_:Sl)(_:Int) w5=>
hld w5 [(a4,.pointer v4),(a3,.pointer v3),(a2,.pointer v2),(a1,.pointer v1)] <|
nck e0 λa6=>
ldc (.ptr) w5 a6 λ(v6:Option Addr)=>
nck v6 λa7=>
ldc (.ptr) w5 a7 λ(v7:Option Addr)=>
nck v7 λa8=>
ldc (.ptr) w5 a8 λ(v8:Option Addr)=>
nck v8 λa9=>
ldc (.ptr) w5 a9 λ(v9:Option Addr)=>
nck v9 λa10=>
ldc (.ptr) w5 a10 λ(v10:Option Addr)=>
nck v10 λa11=>
ldc (.ptr) w5 a11 λ(v11:Option Addr)=>
nck v11 λa12=>
ldc (.ptr) w5 a12 λ(v12:Option Addr)=>
nck v12 λa13=>
ldc (.ptr) w5 a13 λ(v13:Option Addr)=>
cl Pg F.aN [.pointer v13,out.v,s2.v] w5 [.one .slice] λ(s4:Sl) w6=>
bnd (wi (x+1)) λn=>
C0 s4 n w6)) (
J0 out w2)) s 0 w1) λ(out1:Sl) w7=>
R (out1.v) w7
theorem Ct.eX(h:Sh.eX e0 l (Rt X [.one .slice] K w) w.here):Ct Pg F.eX [.pointer e0,l.v] w X [.one .slice] K:=
 cod (Sh.eX e0 l) 76 [] [] [(2,0,[(5,.one .slice)]),(3,3,[(5,.one .slice),(14,.one (.int .i64))])] f71 h
def Sh.eo(e0:Option Addr)(a:Sl)(b:Sl)(R:Value→TW→Prop)(w:TW):Prop:=
Jn [.bool] (λJ0=>
nck e0 λa1=>
ldc (.ptr) w.drew a1 λ(v:Option Addr)=>
nck v λa2=>
ldc (.ptr) w.drew a2 λ(v1:Option Addr)=>
nck v1 λa3=>
ldc (.ptr) w.drew a3 λ(v2:Option Addr)=>
nck v2 λa4=>
ldc (.ptr) w.drew a4 λ(v3:Option Addr)=>
nck v3 λa5=>
ldc (.ptr) w.drew a5 λ(v4:Option Addr)=>
nck v4 λa6=>
ldc (.ptr) w.drew a6 λ(v5:Option Addr)=>
nck v5 λa7=>
ldc (.ptr) w.drew a7 λ(v6:Option Addr)=>
nck v6 λa8=>
ldc (.ptr) w.drew a8 λ(v7:Option Addr)=>
nck v7 λa9=>
ldc (.ptr) w.drew a9 λ(v8:Option Addr)=>
nck v8 λa10=>
ldc (.ptr) w.drew a10 λ(v9:Option Addr)=>
nck v9 λa11=>
ldc (.ptr) w.drew a11 λ(v10:Option Addr)=>
nck v10 λa12=>
ldc (.ptr) w.drew a12 λ(v11:Option Addr)=>
nck v11 λa13=>
ldc (.int .i64) w.drew ((a13.add 3).add 5) λ(v12:Int)=>
cl Pg F.aS [a.v] w.drew [.one (.int .i64)] λ(r:Int) w1=>
hld w1 [(((a13.add 3).add 5),.int .i64 v12),(a12,.pointer v11),(a11,.pointer v10),(a10,.pointer v9),(a9,.pointer v8),(a8,.pointer v7),(a7,.pointer v6),(a6,.pointer v5),(a5,.pointer v4),(a4,.pointer v3),(a3,.pointer v2),(a2,.pointer v1),(a1,.pointer v)] <|
cond (decide ((r:Int)≥v12)) (
nck e0 λa14=>
ldc (.ptr) w1 a14 λ(v13:Option Addr)=>
nck v13 λa15=>
ldc (.ptr) w1 a15 λ(v14:Option Addr)=>
nck v14 λa16=>
ldc (.ptr) w1 a16 λ(v15:Option Addr)=>
nck v15 λa17=>
ldc (.ptr) w1 a17 λ(v16:Option Addr)=>
nck v16 λa18=>
ldc (.ptr) w1 a18 λ(v17:Option Addr)=>
nck v17 λa19=>
ldc (.ptr) w1 a19 λ(v18:Option Addr)=>
nck v18 λa20=>
ldc (.ptr) w1 a20 λ(v19:Option Addr)=>
nck v19 λa21=>
ldc (.ptr) w1 a21 λ(v20:Option Addr)=>
nck v20 λa22=>
ldc (.ptr) w1 a22 λ(v21:Option Addr)=>
nck v21 λa23=>
ldc (.ptr) w1 a23 λ(v22:Option Addr)=>
nck v22 λa24=>
ldc (.ptr) w1 a24 λ(v23:Option Addr)=>
nck v23 λa25=>
ldc (.ptr) w1 a25 λ(v24:Option Addr)=>
nck v24 λa26=>
ldc (.int .i64) w1 ((a26.add 3).add 5) λ(v25:Int)=>
cl Pg F.aS [b.v] w1 [.one (.int .i64)] λ(r1:Int) w2=>
hld w2 [(((a26.add 3).add 5),.int .i64 v25),(a25,.pointer v24),(a24,.pointer v23),(a23,.pointer v22),(a22,.pointer v21),(a21,.pointer v20),(a20,.pointer v19),(a19,.pointer v18),(a18,.pointer v17),(a17,.pointer v16),(a16,.pointer v15),(a15,.pointer v14),(a14,.pointer v13),(((a13.add 3).add 5),.int .i64 v12),(a12,.pointer v11),(a11,.pointer v10),(a10,.pointer v9),(a9,.pointer v8),(a8,.pointer v7),(a7,.pointer v6),(a6,.pointer v5),(a5,.pointer v4),(a4,.pointer v3),(a3,.pointer v2),(a2,.pointer v1),(a1,.pointer v)] <|
J0 (decide ((r1:Int)≥v25)) w2) (
J0 false w1)) λ(x:Bool) w3=>
cond x (
cl Pg F.dJ [.pointer e0,a.v,b.v] w3 [.one .slice] λ(s:Sl) w4=>
R (s.v) w4) (
cl Pg F.dK [.pointer e0,a.v,b.v] w3 [.one .slice] λ(s1:Sl) w5=>
R (s1.v) w5)
theorem Ct.eo(h:Sh.eo e0 a b (Rt X [.one .slice] K w) w.here):Ct Pg F.eo [.pointer e0,a.v,b.v] w X [.one .slice] K:=
 cod (Sh.eo e0 a b) 105 [] [] [(0,1,[(96,.one .bool)])] f90 h
def Sh.dJ(e0:Option Addr)(a:Sl)(b:Sl)(R:Value→TW→Prop)(w:TW):Prop:=
cl Pg F.bk [a.v] w [.one .slice] λ(s:Sl) w1=>
cl Pg F.bk [b.v] w1 [.one .slice] λ(s1:Sl) w2=>
cl Pg F.eP [s.v,s1.v] w2 [.one (.int .i64)] λ(r:Int) w3=>
Jn [.slice,.slice] (λJ0=>
cond (decide ((r:Int)<0)) (
J0 s1 s w3) (
J0 s s1 w3)) λ(a1:Sl)(b1:Sl) w4=>
Jn [.slice] (λJ1=>
Lp [.slice,.slice] (λ(a2:Sl)(b2:Sl) w5 C0=>
cond (decide (((b2.n:Int):Int)>0)) (
Jn [.slice,.slice] (λJ2=>
cl Pg F.iV [a2.v,b2.v] w5 [.agg [.int .u64,.int .u64,.int .u64,.int .u64,.int .i64]] λ(r1:Int)(r2:Int)(r3:Int)(r4:Int)(r5:Int) w6=>
nwv w6 λw7=>
nwv w7 λw8=>
cond (decide ((r5:Int)>0)) (
cl Pg F.eV [.agg #[.int .u64 r1,.int .u64 r2,.int .u64 r3,.int .u64 r4,.int .i64 r5],a2.v,b2.v] w8 [.one .slice,.one .slice] λ(s2:Sl)(s3:Sl) w9=>
J2 s2 s3 w9) (
nck e0 λa3=>
ldc (.ptr) w8 a3 λ(v:Option Addr)=>
nck v λa4=>
ldc (.ptr) w8 a4 λ(v1:Option Addr)=>
nck v1 λa5=>
ldc (.ptr) w8 a5 λ(v2:Option Addr)=>
nck v2 λa6=>
ldc (.ptr) w8 a6 λ(v3:Option Addr)=>
nck v3 λa7=>
ldc (.ptr) w8 a7 λ(v4:Option Addr)=>
cl Pg F.cx [.pointer v4,a2.v,b2.v] w8 [.one .slice,.one .slice,.one (.int .i64)] λ(_:Sl)(s5:Sl)(_:Int) w10=>
J2 b2 s5 w10)) λ(a8:Sl)(b3:Sl) w11=>
C0 a8 b3 w11) (
J1 a2 w5)) a1 b1 w4) λ(a9:Sl) w12=>
R (a9.v) w12
theorem Ct.dJ(h:Sh.dJ e0 a b (Rt X [.one .slice] K w) w.here):Ct Pg F.dJ [.pointer e0,a.v,b.v] w X [.one .slice] K:=
 cod (Sh.dJ e0 a b) 63 [(7,63)] [(63,5)] [(1,3,[(1,.one .slice),(2,.one .slice)]),(2,0,[(1,.one .slice)]),(3,4,[(1,.one .slice),(2,.one .slice)]),(2,1,[(1,.one .slice),(2,.one .slice)])] f110 h
def Sh.dK(e0:Option Addr)(a:Sl)(b:Sl)(R:Value→TW→Prop)(w:TW):Prop:=
cl Pg F.bn [a.v] w [.one .bool] λ(ok:Bool) w1=>
cond ok (
cl Pg F.bk [b.v] w1 [.one .slice] λ(s:Sl) w2=>
R (s.v) w2) (
cl Pg F.bn [b.v] w1 [.one .bool] λ(ok1:Bool) w3=>
cond ok1 (
cl Pg F.bk [a.v] w3 [.one .slice] λ(s1:Sl) w4=>
R (s1.v) w4) (
cl Pg F.iB [a.v] w3 [.one (.int .i64)] λ(r:Int) w5=>
cl Pg F.iB [b.v] w5 [.one (.int .i64)] λ(r1:Int) w6=>
cl Pg F.cS [a.v,.int .i64 r] w6 [.one .slice] λ(s2:Sl) w7=>
cl Pg F.cS [b.v,.int .i64 r1] w7 [.one .slice] λ(s3:Sl) w8=>
Lp [.slice,.slice] (λ(a1:Sl)(b1:Sl) w9 C0=>
cl Pg F.eP [a1.v,b1.v] w9 [.one (.int .i64)] λ(r2:Int) w10=>
cond ((r2:Int) == 0) (
bnd (if (r1:Int)<r then r1 else r) λn=>
cl Pg F.dY [a1.v,.int .i64 n] w10 [.one .slice] λ(s4:Sl) w11=>
R (s4.v) w11) (
Jn [.slice,.slice] (λJ0=>
cond (decide ((r2:Int)<0)) (
J0 b1 a1 w10) (
J0 a1 b1 w10)) λ(a2:Sl)(b2:Sl) w12=>
cl Pg F.bB [a2.v,b2.v] w12 [.one .slice,.one .bool] λ(s5:Sl)(_:Bool) w13=>
cl Pg F.iB [s5.v] w13 [.one (.int .i64)] λ(r3:Int) w14=>
cl Pg F.cS [s5.v,.int .i64 r3] w14 [.one .slice] λ(s6:Sl) w15=>
C0 s6 b2 w15)) s2 s3 w8))
theorem Ct.dK(h:Sh.dK e0 a b (Rt X [.one .slice] K w) w.here):Ct Pg F.dK [.pointer e0,a.v,b.v] w X [.one .slice] K:=
 cod (Sh.dK e0 a b) 52 [] [] [(3,7,[(1,.one .slice),(2,.one .slice)]),(1,11,[(1,.one .slice),(2,.one .slice)])] f111 h
def Sh.iB(a:Sl)(R:Value→TW→Prop)(w:TW):Prop:=
Jn [.int .i64] (λJ0=>
Lp [.int .i64] (λ(k:Int) w1 C0=>
ixa a k 1 λa1=>
ldc (.int .u64) w1 a1 λ(v:Int)=>
cond ((v:Int) == 0) (
bnd (wi (k+1)) λn=>
C0 n w1) (
J0 k w1)) 0 w) λ(k1:Int) w2=>
bnd (wi (64*k1)) λn1=>
ixa a k1 1 λa2=>
ldc (.int .u64) w2 a2 λ(v1:Int)=>
cl Pg F.bU [.int .u64 v1] w2 [.one (.int .i64)] λ(r:Int) w3=>
bnd (wi (n1+r)) λn2=>
R (.int .i64 n2) w3
theorem Ct.iB{K:KT [.one (.int .i64)]}(h:Sh.iB a (Rt X [.one (.int .i64)] K w) w.here):Ct Pg F.iB [a.v] w X [.one (.int .i64)] K:=
 cod (Sh.iB a) 19 [] [] [(2,0,[(3,.one (.int .i64))]),(3,2,[(3,.one (.int .i64))])] f135 h
def Sh.j8(t:HL I11)(R:Value→TW→Prop)(w:TW):Prop:=
nwv w λw1=>
cl Pg F.je [.agg (aX I11 t).toArray] w1 [.one .ptr] λ(p:Option Addr) w2=>
nwb w2 [.pointer p] T.wn λb w3=>
R (.pointer (some ⟨b,0,none⟩)) w3
theorem Ct.j8{t:HL I11}{K:KT [.one .ptr]}(h:Sh.j8 t (Rt X [.one .ptr] K w) w.here):Ct Pg F.j8 [.agg (aX I11 t).toArray] w X [.one .ptr] K:=
 cod (Sh.j8 t) 7 [(1,7)] [(7,11)] [] f165 h
end
section
set_option maxRecDepth 100000
open Go.Proofs.Tryz
def Sh.jF(t:HL I11)(R:Value→TW→Prop)(w:TW):Prop:=
nwv w λw1=>
cl Pg F.j8 [.agg (aX I11 t).toArray] w1 [.one .ptr] λ(p:Option Addr) w2=>
nwb w2 [.pointer p] T.uF λb w3=>
R (.pointer (some ⟨b,0,none⟩)) w3
theorem Ct.jF{t:HL I11}{w:TW}{X:Nat→Prop}{K:KT [.one .ptr]}(h:Sh.jF t (Rt X [.one .ptr] K w) w.here):Ct Pg F.jF [.agg (aX I11 t).toArray] w X [.one .ptr] K:=
 cod (Sh.jF t) 7 [(1,7)] [(7,11)] [] f132 h
end
section
set_option maxRecDepth 100000
open Go.Proofs.Tryz
variable {a:Sl} {w:TW} {X:Nat→Prop} {K:KT [.one .slice]} {n:Int}
def Sh.dZ(e0:Option Addr)(a:Sl)(b:Sl)(inner:Value)(R:Value→TW→Prop)(w:TW):Prop:=
Jn [.slice,.slice] (λJ0=>
cond (decide (((a.n:Int):Int)<(b.n:Int))) (
J0 b a w) (
J0 a b w)) λ(a1:Sl)(b1:Sl) w1=>
bnd (wi ((a1.n:Int)+1)) λn=>
eH .i64 n 2 λn1=>
cond (decide (((b1.n:Int):Int)≤n1)) (
R (.tuple #[.slice none 0 0,.bool false]) w1) (
nck e0 λa2=>
ldc (.ptr) w1 a2 λ(v:Option Addr)=>
nck v λa3=>
ldc (.ptr) w1 a3 λ(v1:Option Addr)=>
nck v1 λa4=>
cl Pg F.bI [.pointer (some a4)] w1 [.one (.int .i64)] λ(_:Int) w2=>
cl Pg F.eW [a1.v,.int .i64 0,.int .i64 n1] w2 [.one .slice] λ(s:Sl) w3=>
bnd (wi ((a1.n:Int)-n1)) λn2=>
cl Pg F.eW [a1.v,.int .i64 n1,.int .i64 n2] w3 [.one .slice] λ(s1:Sl) w4=>
cl Pg F.eW [b1.v,.int .i64 0,.int .i64 n1] w4 [.one .slice] λ(s2:Sl) w5=>
bnd (wi ((b1.n:Int)-n1)) λn3=>
cl Pg F.eW [b1.v,.int .i64 n1,.int .i64 n3] w5 [.one .slice] λ(s3:Sl) w6=>
cl Pg F.cT [s.v,s1.v] w6 [.one .slice] λ(s4:Sl) w7=>
bnd (wi (n1+1)) λn4=>
cl Pg F.ir [s4.v,.int .i64 n4] w7 [.one .slice] λ(s5:Sl) w8=>
cl Pg F.cT [s2.v,s3.v] w8 [.one .slice] λ(s6:Sl) w9=>
bnd (wi (n1+1)) λn5=>
cl Pg F.ir [s6.v,.int .i64 n5] w9 [.one .slice] λ(s7:Sl) w10=>
clv Pg inner [s.v,s2.v] w10 [.one .slice] λ(s8:Sl) w11=>
clv Pg inner [s1.v,s3.v] w11 [.one .slice] λ(s9:Sl) w12=>
clv Pg inner [s5.v,s7.v] w12 [.one .slice] λ(s10:Sl) w13=>
nck e0 λa5=>
ldc (.ptr) w13 a5 λ(v2:Option Addr)=>
nck v2 λa6=>
ldc (.ptr) w13 a6 λ(v3:Option Addr)=>
nck v3 λa7=>
cl Pg F.bH [.pointer (some a7)] w13 [.one (.int .i64)] λ(_:Int) w14=>
cl Pg F.cT [s8.v,s9.v] w14 [.one .slice] λ(s11:Sl) w15=>
cl Pg F.bB [s10.v,s11.v] w15 [.one .slice,.one .bool] λ(s12:Sl)(_:Bool) w16=>
nwb w16 [s8.v,s12.v,s9.v] T.cL λb2 w17=>
cl Pg F.cK [.int .i64 n1,.slice (some ⟨b2,0,none⟩) 3 3] w17 [.one .slice] λ(s13:Sl) w18=>
R (.tuple #[s13.v,.bool true]) w18)
theorem Ct.dZ{e0:Option Addr}{b:Sl}{inner:Value}{K:KT [.one .slice,.one .bool]}(h:Sh.dZ e0 a b inner (Rt X [.one .slice,.one .bool] K w) w.here):Ct Pg F.dZ [.pointer e0,a.v,b.v,inner] w X [.one .slice,.one .bool] K:=
 cod (Sh.dZ e0 a b inner) 117 [] [] [(1,2,[(1,.one .slice),(2,.one .slice)])] f187 h
def Sh.eW(a:Sl)(from0:Int)(n:Int)(R:Value→TW→Prop)(w:TW):Prop:=
mks w n n T.ar 8 [.int .u64 0] λs w1=>
Jn [] (λJ0=>
cond (decide ((from0:Int)<(a.n:Int))) (
bnd (wi (from0+n)) λn1=>
bnd (if (n1:Int)<(a.n:Int) then n1 else (a.n:Int)) λn2=>
slc a from0 n2 1 λs1=>
cpy w1 T.ar s s1 λ_ w2=>
J0 w2) (
J0 w1)) fun  w3=>
R (s.v) w3
theorem Ct.eW{from0:Int}(h:Sh.eW a from0 n (Rt X [.one .slice] K w) w.here):Ct Pg F.eW [a.v,.int .i64 from0,.int .i64 n] w X [.one .slice] K:=
 cod (Sh.eW a from0 n) 26 [] [] [(1,3,[])] f217 h
def Sh.ir(a:Sl)(n:Int)(R:Value→TW→Prop)(w:TW):Prop:=
cl Pg F.eW [a.v,.int .i64 0,.int .i64 n] w [.one .slice] λ(s:Sl) w1=>
R (s.v) w1
theorem Ct.ir(h:Sh.ir a n (Rt X [.one .slice] K w) w.here):Ct Pg F.ir [a.v,.int .i64 n] w X [.one .slice] K:=
 cod (Sh.ir a n) 8 [] [] [] f218 h
def Sh.jj(t:HL I11)(R:Value→TW→Prop)(w:TW):Prop:=
nwv w λw1=>
cl Pg F.gY [.agg (aX I11 t).toArray] w1 [.one .ptr] λ(p:Option Addr) w2=>
nwb w2 [.pointer p] T.py λb w3=>
R (.pointer (some ⟨b,0,none⟩)) w3
theorem Ct.jj{t:HL I11}{K:KT [.one .ptr]}(h:Sh.jj t (Rt X [.one .ptr] K w) w.here):Ct Pg F.jj [.agg (aX I11 t).toArray] w X [.one .ptr] K:=
 cod (Sh.jj t) 7 [(1,7)] [(7,11)] [] f281 h
end
section
set_option maxRecDepth 100000
open Go.Proofs.Tryz
variable {a b:Sl} {w:TW} {X:Nat→Prop} {K:KT [.agg [.int .u64,.int .u64,.int .u64,.int .u64,.int .i64]]} {r0 r1 r2 r3 r4 x y:Int}
def Sh.iV(a:Sl)(b:Sl)(R:Value→TW→Prop)(w:TW):Prop:=
nwv w λw1=>
cl Pg F.dh [a.v] w1 [.one (.int .i64)] λ(r:Int) w2=>
cl Pg F.iq [a.v,.int .i64 r] w2 [.one (.int .u64)] λ(r1:Int) w3=>
cl Pg F.dh [a.v] w3 [.one (.int .i64)] λ(r2:Int) w4=>
cl Pg F.iq [b.v,.int .i64 r2] w4 [.one (.int .u64)] λ(r3:Int) w5=>
cl Pg F.ie [.int .u64 r1,.int .u64 r3] w5 [.agg [.int .u64,.int .u64,.int .u64,.int .u64,.int .i64]] λ(r4:Int)(r5:Int)(r6:Int)(r7:Int)(r8:Int) w6=>
nwv w6 λw7=>
R (.agg #[.int .u64 r4,.int .u64 r5,.int .u64 r6,.int .u64 r7,.int .i64 r8]) w7
theorem Ct.iV(h:Sh.iV a b (Rt X [.agg [.int .u64,.int .u64,.int .u64,.int .u64,.int .i64]] K w) w.here):Ct Pg F.iV [a.v,b.v] w X [.agg [.int .u64,.int .u64,.int .u64,.int .u64,.int .i64]] K:=
 cod (Sh.iV a b) 14 [(4,14)] [(14,5)] [] f133 h
def Sh.eV(r0:Int)(r1:Int)(r2:Int)(r3:Int)(r4:Int)(a:Sl)(b:Sl)(R:Value→TW→Prop)(w:TW):Prop:=
nwv w λw1=>
cR r4 2 λn=>
cond ((n:Int) == 1) (
cl Pg F.fQ [b.v,.int .u64 r1,a.v,.int .u64 r0] w1.drew [.one .slice] λ(s:Sl) w2=>
cl Pg F.fQ [a.v,.int .u64 r2,b.v,.int .u64 r3] w2 [.one .slice] λ(s1:Sl) w3=>
R (.tuple #[s.v,s1.v]) w3) (
cl Pg F.fQ [a.v,.int .u64 r0,b.v,.int .u64 r1] w1.drew [.one .slice] λ(s2:Sl) w4=>
cl Pg F.fQ [b.v,.int .u64 r3,a.v,.int .u64 r2] w4 [.one .slice] λ(s3:Sl) w5=>
R (.tuple #[s2.v,s3.v]) w5)
theorem Ct.eV{K:KT [.one .slice,.one .slice]}(h:Sh.eV r0 r1 r2 r3 r4 a b (Rt X [.one .slice,.one .slice] K w) w.here):Ct Pg F.eV [.agg #[.int .u64 r0,.int .u64 r1,.int .u64 r2,.int .u64 r3,.int .i64 r4],a.v,b.v] w X [.one .slice,.one .slice] K:=
 cod (Sh.eV r0 r1 r2 r3 r4 a b) 40 [(3,40)] [(40,5)] [] f134 h
def Sh.ie(x:Int)(y:Int)(R:Value→TW→Prop)(w:TW):Prop:=
nwv w λw1=>
nwv w1 λw2=>
nwv w2 λw3=>
Jn [.int .u64,.int .u64,.int .u64,.int .u64,.int .i64,.int .u64,.int .u64,.int .u64,.int .u64,.int .i64] (λJ0=>
Lp [.int .u64,.int .u64,.int .u64,.int .u64,.int .u64,.int .u64,.int .i64,.int .u64,.int .u64,.int .u64,.int .u64,.int .i64] (λ(x1:Int)(y1:Int)(x2:Int)(x3:Int)(x4:Int)(x5:Int)(x6:Int)(r:Int)(r1:Int)(r2:Int)(r3:Int)(r4:Int) w4 C0=>
Jn [.bool,.int .u64,.int .u64,.int .u64,.int .u64,.int .i64,.int .u64,.int .u64,.int .u64,.int .u64,.int .i64] (λJ1=>
cond (decide ((r2:Int)<1073741824)) (
J1 (decide ((r3:Int)<1073741824)) x2 x3 x4 x5 x6 r r1 r2 r3 r4 w4) (
J1 false x2 x3 x4 x5 x6 r r1 r2 r3 r4 w4)) λ(x7:Bool)(x8:Int)(x9:Int)(x10:Int)(x11:Int)(x12:Int)(r5:Int)(r6:Int)(r7:Int)(r8:Int)(r9:Int) w5=>
cond x7 (
cl Pg F.dI [.agg #[.int .u64 r5,.int .u64 r6,.int .u64 r7,.int .u64 r8,.int .i64 r9],.int .u64 x1,.int .u64 y1] w5 [.one (.int .u64),.one .bool] λ(r10:Int)(ok:Bool) w6=>
cond (!ok) (
J0 x8 x9 x10 x11 x12 r5 r6 r7 r8 r9 w6) (
bnd (wu (r10*y1)) λn=>
bnd (wu (x1-n)) λn1=>
cl Pg F.fz [.agg #[.int .u64 r5,.int .u64 r6,.int .u64 r7,.int .u64 r8,.int .i64 r9],.int .u64 r10] w6 [.agg [.int .u64,.int .u64,.int .u64,.int .u64,.int .i64]] λ(r11:Int)(r12:Int)(r13:Int)(r14:Int)(r15:Int) w7=>
nwv w7 λw8=>
C0 y1 n1 x8 x9 x10 x11 x12 r11 r12 r13 r14 r15 w8)) (
J0 x8 x9 x10 x11 x12 r5 r6 r7 r8 r9 w5)) x y 0 0 0 0 0 1 0 0 1 0 w3) λ(_:Int)(_:Int)(_:Int)(_:Int)(_:Int)(r16:Int)(r17:Int)(r18:Int)(r19:Int)(r20:Int) w9=>
nwv w9 λw10=>
R (.agg #[.int .u64 r16,.int .u64 r17,.int .u64 r18,.int .u64 r19,.int .i64 r20]) w10
theorem Ct.ie(h:Sh.ie x y (Rt X [.agg [.int .u64,.int .u64,.int .u64,.int .u64,.int .i64]] K w) w.here):Ct Pg F.ie [.int .u64 x,.int .u64 y] w X [.agg [.int .u64,.int .u64,.int .u64,.int .u64,.int .i64]] K:=
 cod (Sh.ie x y) 36 [(4,36),(5,41)] [(36,5),(41,5)] [(2,0,[(36,.one (.int .u64)),(37,.one (.int .u64)),(38,.one (.int .u64)),(39,.one (.int .u64)),(40,.one (.int .i64)),(41,.one (.int .u64)),(42,.one (.int .u64)),(43,.one (.int .u64)),(44,.one (.int .u64)),(45,.one (.int .i64))]),(3,2,[(0,.one (.int .u64)),(1,.one (.int .u64)),(36,.one (.int .u64)),(37,.one (.int .u64)),(38,.one (.int .u64)),(39,.one (.int .u64)),(40,.one (.int .i64)),(41,.one (.int .u64)),(42,.one (.int .u64)),(43,.one (.int .u64)),(44,.one (.int .u64)),(45,.one (.int .i64))]),(0,2,[(16,.one .bool),(36,.one (.int .u64)),(37,.one (.int .u64)),(38,.one (.int .u64)),(39,.one (.int .u64)),(40,.one (.int .i64)),(41,.one (.int .u64)),(42,.one (.int .u64)),(43,.one (.int .u64)),(44,.one (.int .u64)),(45,.one (.int .i64))])] f166 h
def Sh.iq(a:Sl)(digits:Int)(R:Value→TW→Prop)(w:TW):Prop:=
bnd (wi (digits-62)) λn=>
bnd (if (n:Int)>0 then n else 0) λn1=>
cl Pg F.cS [a.v,.int .i64 n1] w [.one .slice] λ(s:Sl) w1=>
cl Pg F.bn [s.v] w1 [.one .bool] λ(ok:Bool) w2=>
cond ok (
R (.int .u64 0) w2) (
ixa s 0 1 λa1=>
ldc (.int .u64) w2 a1 λ(v:Int)=>
R (.int .u64 v) w2)
theorem Ct.iq{digits:Int}{K:KT [.one (.int .u64)]}(h:Sh.iq a digits (Rt X [.one (.int .u64)] K w) w.here):Ct Pg F.iq [a.v,.int .i64 digits] w X [.one (.int .u64)] K:=
 cod (Sh.iq a digits) 16 [] [] [] f167 h
def Sh.fQ(a:Sl)(p:Int)(b:Sl)(q:Int)(R:Value→TW→Prop)(w:TW):Prop:=
cl Pg F.fp [a.v,.int .u64 p] w [.one .slice] λ(s:Sl) w1=>
cl Pg F.gj [s.v,b.v,.int .u64 q] w1 [.one .slice,.one .bool] λ(s1:Sl)(_:Bool) w2=>
R (s1.v) w2
theorem Ct.fQ{p:Int}{q:Int}{K:KT [.one .slice]}(h:Sh.fQ a p b q (Rt X [.one .slice] K w) w.here):Ct Pg F.fQ [a.v,.int .u64 p,b.v,.int .u64 q] w X [.one .slice] K:=
 cod (Sh.fQ a p b q) 21 [] [] [] f168 h
def Sh.dI(r0:Int)(r1:Int)(r2:Int)(r3:Int)(r4:Int)(x:Int)(y:Int)(R:Value→TW→Prop)(w:TW):Prop:=
nwv w λw1=>
cR r4 2 λn=>
Jn [.int .u64,.int .u64,.int .u64,.int .u64] (λJ0=>
cond ((n:Int) == 1) (
J0 r0 r1 r3 r2 w1.drew.drew) (
J0 r1 r0 r2 r3 w1.drew)) λ(lessX:Int)(moreX:Int)(lessY:Int)(moreY:Int) w2=>
Jn [.bool] (λJ1=>
cond (decide ((x:Int)<lessX)) (
J1 true w2) (
J1 (decide ((y:Int)≤lessY)) w2)) λ(x1:Bool) w3=>
cond x1 (
R (.tuple #[.int .u64 0,.bool false]) w3) (
bnd (wu (x-lessX)) λn1=>
bnd (wu (y+moreY)) λn2=>
eH .u64 n1 n2 λn3=>
bnd (wu (x+moreX)) λn4=>
bnd (wu (y-lessY)) λn5=>
eH .u64 n4 n5 λn6=>
Jn [.int .u64,.bool] (λJ2=>
cond ((n3:Int) == n6) (
J2 n3 (decide ((n3:Int)<2147483648)) w3.drew) (
J2 n3 false w3.drew)) λ(x2:Int)(x3:Bool) w4=>
R (.tuple #[.int .u64 x2,.bool x3]) w4)
theorem Ct.dI{K:KT [.one (.int .u64),.one .bool]}(h:Sh.dI r0 r1 r2 r3 r4 x y (Rt X [.one (.int .u64),.one .bool] K w) w.here):Ct Pg F.dI [.agg #[.int .u64 r0,.int .u64 r1,.int .u64 r2,.int .u64 r3,.int .i64 r4],.int .u64 x,.int .u64 y] w X [.one (.int .u64),.one .bool] K:=
 cod (Sh.dI r0 r1 r2 r3 r4 x y) 64 [(3,64)] [(64,5)] [(1,3,[(8,.one (.int .u64)),(9,.one (.int .u64)),(10,.one (.int .u64)),(11,.one (.int .u64))]),(0,4,[(41,.one .bool)]),(0,7,[(6,.one (.int .u64)),(7,.one .bool)])] f199 h
def Sh.fz(r0:Int)(r1:Int)(r2:Int)(r3:Int)(r4:Int)(k:Int)(R:Value→TW→Prop)(w:TW):Prop:=
nwv w λw1=>
nwv w1 λw2=>
bnd (wu (k*r2)) λn=>
bnd (wu (r0+n)) λn1=>
bnd (wu (k*r3)) λn2=>
bnd (wu (r1+n2)) λn3=>
bnd (wi (r4+1)) λn4=>
nwv w2 λw3=>
R (.agg #[.int .u64 r2,.int .u64 r3,.int .u64 n1,.int .u64 n3,.int .i64 n4]) w3
theorem Ct.fz{k:Int}(h:Sh.fz r0 r1 r2 r3 r4 k (Rt X [.agg [.int .u64,.int .u64,.int .u64,.int .u64,.int .i64]] K w) w.here):Ct Pg F.fz [.agg #[.int .u64 r0,.int .u64 r1,.int .u64 r2,.int .u64 r3,.int .i64 r4],.int .u64 k] w X [.agg [.int .u64,.int .u64,.int .u64,.int .u64,.int .i64]] K:=
 cod (Sh.fz r0 r1 r2 r3 r4 k) 27 [(2,27),(4,32)] [(27,5),(32,5)] [] f200 h
end
section
set_option maxRecDepth 100000
open Go.Proofs.Tryz
variable {k n y:Int} {w:TW} {X:Nat→Prop} {K:KT [.one .slice]} {a b:Sl}
def Sh.dk(y:Int)(R:Value→TW→Prop)(w:TW):Prop:=
cond ((y:Int) == 0) (
R (.slice none 0 0) w) (
nwb w [.int .u64 y] T.ar λb w1=>
R (.slice (some ⟨b,0,none⟩) 1 1) w1)
theorem Ct.dk(h:Sh.dk y (Rt X [.one .slice] K w) w.here):Ct Pg F.dk [.int .u64 y] w X [.one .slice] K:=
 cod (Sh.dk y) 7 [] [] [] f66 h
def Sh.eP(a:Sl)(b:Sl)(R:Value→TW→Prop)(w:TW):Prop:=
cl Pg F.aS [a.v] w [.one (.int .i64)] λ(r:Int) w1=>
cl Pg F.aS [b.v] w1 [.one (.int .i64)] λ(r1:Int) w2=>
cond ((r:Int) != r1) (
cond (decide ((r:Int)<r1)) (
R (.int .i64 (-1)) w2) (
R (.int .i64 1) w2)) (
bnd (wi (r-1)) λn=>
Jn [] (λJ0=>
Lp [.int .i64] (λ(i:Int) w3 C0=>
cond (decide ((i:Int)≥0)) (
ixa a i 1 λa1=>
ldc (.int .u64) w3.drew a1 λ(v:Int)=>
ixa b i 1 λa2=>
ldc (.int .u64) w3.drew a2 λ(v1:Int)=>
cond ((v:Int) != v1) (
ixa a i 1 λa3=>
ldc (.int .u64) w3.drew.drew a3 λ(v2:Int)=>
ixa b i 1 λa4=>
ldc (.int .u64) w3.drew.drew a4 λ(v3:Int)=>
cond (decide ((v2:Int)<v3)) (
R (.int .i64 (-1)) w3.drew.drew) (
R (.int .i64 1) w3.drew.drew)) (
bnd (wi (i-1)) λn1=>
C0 n1 w3.drew)) (
J0 w3)) n w2) fun  w4=>
R (.int .i64 0) w4)
theorem Ct.eP{K:KT [.one (.int .i64)]}(h:Sh.eP a b (Rt X [.one (.int .i64)] K w) w.here):Ct Pg F.eP [a.v,b.v] w X [.one (.int .i64)] K:=
 cod (Sh.eP a b) 42 [] [] [(2,0,[]),(3,7,[(7,.one (.int .i64))])] f94 h
def Sh.bk(a:Sl)(R:Value→TW→Prop)(w:TW):Prop:=
cl Pg F.aV [a.v] w [.one .slice] λ(s:Sl) w1=>
apd w1 T.ar 1 8 Sl.nil s λs1 w2=>
R (s1.v) w2
theorem Ct.bk(h:Sh.bk a (Rt X [.one .slice] K w) w.here):Ct Pg F.bk [a.v] w X [.one .slice] K:=
 cod (Sh.bk a) 6 [] [] [] f99 h
def Sh.fp(a:Sl)(y:Int)(R:Value→TW→Prop)(w:TW):Prop:=
cl Pg F.gk [.slice none 0 0,a.v,.int .u64 y] w [.one .slice] λ(s:Sl) w1=>
R (s.v) w1
theorem Ct.fp(h:Sh.fp a y (Rt X [.one .slice] K w) w.here):Ct Pg F.fp [a.v,.int .u64 y] w X [.one .slice] K:=
 cod (Sh.fp a y) 8 [] [] [] f119 h
def Sh.aV(a:Sl)(R:Value→TW→Prop)(w:TW):Prop:=
cl Pg F.aS [a.v] w [.one (.int .i64)] λ(r:Int) w1=>
slc a 0 r 1 λs=>
R (s.v) w1
theorem Ct.aV(h:Sh.aV a (Rt X [.one .slice] K w) w.here):Ct Pg F.aV [a.v] w X [.one .slice] K:=
 cod (Sh.aV a) 7 [] [] [] f121 h
def Sh.cT(a:Sl)(b:Sl)(R:Value→TW→Prop)(w:TW):Prop:=
cl Pg F.aV [a.v] w [.one .slice] λ(s:Sl) w1=>
cl Pg F.aV [b.v] w1 [.one .slice] λ(s1:Sl) w2=>
Jn [.slice,.slice] (λJ0=>
cond (decide (((s.n:Int):Int)<(s1.n:Int))) (
J0 s1 s w2) (
J0 s s1 w2)) λ(a1:Sl)(b1:Sl) w3=>
bnd (wi ((a1.n:Int)+1)) λn=>
mks w3 n n T.ar 8 [.int .u64 0] λs2 w4=>
Jn [.int .u64] (λJ1=>
Lp [.int .u64,.int .i64] (λ(c:Int)(x:Int) w5 C0=>
cond (decide ((x:Int)<(a1.n:Int))) (
Jn [.int .u64] (λJ2=>
cond (decide ((x:Int)<(b1.n:Int))) (
ixa b1 x 1 λa2=>
ldc (.int .u64) w5 a2 λ(v:Int)=>
J2 v w5) (
J2 0 w5)) λ(y:Int) w6=>
ixa a1 x 1 λa3=>
ldc (.int .u64) w6 a3 λ(v1:Int)=>
fS v1 y c λs3 c1=>
ixa s2 x 1 λa4=>
stc w6 a4 (.int .u64 s3) λw7=>
bnd (wi (x+1)) λn1=>
C0 c1 n1 w7) (
J1 c w5)) 0 0 w4) λ(c2:Int) w8=>
ixa s2 (a1.n:Int) 1 λa5=>
stc w8 a5 (.int .u64 c2) λw9=>
cl Pg F.aV [s2.v] w9 [.one .slice] λ(s4:Sl) w10=>
R (s4.v) w10
theorem Ct.cT(h:Sh.cT a b (Rt X [.one .slice] K w) w.here):Ct Pg F.cT [a.v,b.v] w X [.one .slice] K:=
 cod (Sh.cT a b) 58 [] [] [(1,3,[(0,.one .slice),(1,.one .slice)]),(2,0,[(6,.one (.int .u64))]),(3,7,[(6,.one (.int .u64)),(26,.one (.int .i64))]),(1,11,[(8,.one (.int .u64))])] f124 h
def Sh.bB(a:Sl)(b:Sl)(R:Value→TW→Prop)(w:TW):Prop:=
cl Pg F.aV [a.v] w [.one .slice] λ(s:Sl) w1=>
cl Pg F.aV [b.v] w1 [.one .slice] λ(s1:Sl) w2=>
cl Pg F.eP [s.v,s1.v] w2 [.one (.int .i64)] λ(r:Int) w3=>
cond (decide ((r:Int)<0)) (
R (.tuple #[.slice none 0 0,.bool false]) w3) (
mks w3 (s.n:Int) (s.n:Int) T.ar 8 [.int .u64 0] λs2 w4=>
Jn [] (λJ0=>
Lp [.int .u64,.int .i64] (λ(c:Int)(x:Int) w5 C0=>
cond (decide ((x:Int)<(s.n:Int))) (
Jn [.int .u64] (λJ1=>
cond (decide ((x:Int)<(s1.n:Int))) (
ixa s1 x 1 λa1=>
ldc (.int .u64) w5 a1 λ(v:Int)=>
J1 v w5) (
J1 0 w5)) λ(y:Int) w6=>
ixa s x 1 λa2=>
ldc (.int .u64) w6 a2 λ(v1:Int)=>
jT v1 y c λs3 c1=>
ixa s2 x 1 λa3=>
stc w6 a3 (.int .u64 s3) λw7=>
bnd (wi (x+1)) λn=>
C0 c1 n w7) (
J0 w5)) 0 0 w4) fun  w8=>
cl Pg F.aV [s2.v] w8 [.one .slice] λ(s4:Sl) w9=>
R (.tuple #[s4.v,.bool true]) w9)
theorem Ct.bB{K:KT [.one .slice,.one .bool]}(h:Sh.bB a b (Rt X [.one .slice,.one .bool] K w) w.here):Ct Pg F.bB [a.v,b.v] w X [.one .slice,.one .bool] K:=
 cod (Sh.bB a b) 50 [] [] [(2,0,[]),(3,7,[(7,.one (.int .u64)),(23,.one (.int .i64))]),(1,11,[(9,.one (.int .u64))])] f125 h
def Sh.cS(a:Sl)(n:Int)(R:Value→TW→Prop)(w:TW):Prop:=
cl Pg F.eQ [.int .i64 n,.int .i64 1048576] w [.one (.int .i64)] λ(r:Int) w1=>
cl Pg F.aV [a.v] w1 [.one .slice] λ(s:Sl) w2=>
eH .i64 r 64 λn1=>
cR r 64 λn2=>
bnd (wu (n2)) λn3=>
cond (decide ((n1:Int)≥(s.n:Int))) (
R (.slice none 0 0) w2) (
bnd (wi ((s.n:Int)-n1)) λn4=>
mks w2 n4 n4 T.ar 8 [.int .u64 0] λs1 w3=>
Jn [] (λJ0=>
Lp [.int .i64] (λ(x:Int) w4 C0=>
cond (decide ((x:Int)<(s1.n:Int))) (
bnd (wi (x+n1)) λn5=>
ixa s n5 1 λa1=>
ldc (.int .u64) w4 a1 λ(v:Int)=>
fF .u64 v n3 λn6=>
ixa s1 x 1 λa2=>
stc w4 a2 (.int .u64 n6) λw5=>
Jn [.bool] (λJ1=>
cond (decide ((n3:Int)>0)) (
bnd (wi (x+n1)) λn7=>
bnd (wi (n7+1)) λn8=>
J1 (decide ((n8:Int)<(s.n:Int))) w5) (
J1 false w5)) λ(x1:Bool) w6=>
Jn [] (λJ2=>
cond x1 (
ixa s1 x 1 λa3=>
ldc (.int .u64) w6.drew a3 λ(v1:Int)=>
bnd (wi (x+n1)) λn9=>
bnd (wi (n9+1)) λn10=>
ixa s n10 1 λa4=>
ldc (.int .u64) w6.drew a4 λ(v2:Int)=>
bnd (wu (64-n3)) λn11=>
iy .u64 v2 n11 λn12=>
bnd (bu .or .u64 v1 n12) λn13=>
ixa s1 x 1 λa5=>
stc w6.drew a5 (.int .u64 n13) λw7=>
J2 w7) (
J2 w6)) fun  w8=>
bnd (wi (x+1)) λn14=>
C0 n14 w8) (
J0 w4)) 0 w3) fun  w9=>
cl Pg F.aV [s1.v] w9 [.one .slice] λ(s2:Sl) w10=>
R (s2.v) w10)
theorem Ct.cS(h:Sh.cS a n (Rt X [.one .slice] K w) w.here):Ct Pg F.cS [a.v,.int .i64 n] w X [.one .slice] K:=
 cod (Sh.cS a n) 75 [] [] [(2,0,[]),(3,8,[(29,.one (.int .i64))]),(0,11,[(53,.one .bool)]),(1,12,[])] f136 h
def Sh.dY(a:Sl)(n:Int)(R:Value→TW→Prop)(w:TW):Prop:=
cl Pg F.eQ [.int .i64 n,.int .i64 1048576] w [.one (.int .i64)] λ(r:Int) w1=>
cl Pg F.aV [a.v] w1 [.one .slice] λ(s:Sl) w2=>
cond (((s.n:Int):Int) == 0) (
R (.slice none 0 0) w2) (
eH .i64 r 64 λn1=>
cR r 64 λn2=>
bnd (wu (n2)) λn3=>
bnd (wi ((s.n:Int)+n1)) λn4=>
bnd (wi (n4+1)) λn5=>
mks w2 n5 n5 T.ar 8 [.int .u64 0] λs1 w3=>
Jn [] (λJ0=>
Lp [.int .i64] (λ(x:Int) w4 C0=>
cond (decide ((x:Int)<(s.n:Int))) (
ixa s x 1 λa1=>
ldc (.int .u64) w4 a1 λ(v:Int)=>
bnd (wi (x+n1)) λn6=>
bnd (wi (x+n1)) λn7=>
ixa s1 n7 1 λa2=>
ldc (.int .u64) w4 a2 λ(v1:Int)=>
iy .u64 v n3 λn8=>
bnd (bu .or .u64 v1 n8) λn9=>
ixa s1 n6 1 λa3=>
stc w4 a3 (.int .u64 n9) λw5=>
Jn [] (λJ1=>
cond (decide ((n3:Int)>0)) (
bnd (wi (x+n1)) λn10=>
bnd (wi (n10+1)) λn11=>
bnd (wu (64-n3)) λn12=>
fF .u64 v n12 λn13=>
ixa s1 n11 1 λa4=>
stc w5 a4 (.int .u64 n13) λw6=>
J1 w6) (
J1 w5)) fun  w7=>
bnd (wi (x+1)) λn14=>
C0 n14 w7) (
J0 w4)) 0 w3) fun  w8=>
cl Pg F.aV [s1.v] w8 [.one .slice] λ(s2:Sl) w9=>
R (s2.v) w9)
theorem Ct.dY(h:Sh.dY a n (Rt X [.one .slice] K w) w.here):Ct Pg F.dY [a.v,.int .i64 n] w X [.one .slice] K:=
 cod (Sh.dY a n) 65 [] [] [(2,0,[]),(3,8,[(30,.one (.int .i64))]),(1,12,[])] f137 h
def Sh.fN(a:Sl)(y:Int)(R:Value→TW→Prop)(w:TW):Prop:=
cond ((y:Int) == 0) (
R (.tuple #[.slice none 0 0,.int .u64 0,.int .i64 2]) w) (
cl Pg F.aV [a.v] w [.one .slice] λ(s:Sl) w1=>
mks w1 (s.n:Int) (s.n:Int) T.ar 8 [.int .u64 0] λs1 w2=>
bnd (wi ((s.n:Int)-1)) λn=>
Jn [.int .u64] (λJ0=>
Lp [.int .u64,.int .i64] (λ(r:Int)(i:Int) w3 C0=>
cond (decide ((i:Int)≥0)) (
ixa s i 1 λa1=>
ldc (.int .u64) w3 a1 λ(v:Int)=>
cl Pg F.eG [.int .u64 r,.int .u64 v,.int .u64 y] w3 [.one (.int .u64),.one (.int .u64)] λ(r1:Int)(r2:Int) w4=>
ixa s1 i 1 λa2=>
stc w4 a2 (.int .u64 r1) λw5=>
bnd (wi (i-1)) λn1=>
C0 r2 n1 w5) (
J0 r w3)) 0 n w2) λ(r3:Int) w6=>
cl Pg F.aV [s1.v] w6 [.one .slice] λ(s2:Sl) w7=>
R (.tuple #[s2.v,.int .u64 r3,.int .i64 0]) w7)
theorem Ct.fN{K:KT [.one .slice,.one (.int .u64),.one (.int .i64)]}(h:Sh.fN a y (Rt X [.one .slice,.one (.int .u64),.one (.int .i64)] K w) w.here):Ct Pg F.fN [a.v,.int .u64 y] w X [.one .slice,.one (.int .u64),.one (.int .i64)] K:=
 cod (Sh.fN a y) 40 [] [] [(2,0,[(8,.one (.int .u64))]),(3,7,[(8,.one (.int .u64)),(9,.one (.int .i64))])] f149 h
def Sh.gk(a:Sl)(b:Sl)(y:Int)(R:Value→TW→Prop)(w:TW):Prop:=
cl Pg F.aV [a.v] w [.one .slice] λ(s:Sl) w1=>
cl Pg F.aV [b.v] w1 [.one .slice] λ(s1:Sl) w2=>
bnd (wi ((s1.n:Int)+1)) λn=>
bnd (if (n:Int)>(s.n:Int) then n else (s.n:Int)) λn1=>
bnd (wi (n1+1)) λn2=>
mks w2 n2 n2 T.ar 8 [.int .u64 0] λs2 w3=>
cpy w3 T.ar s2 s λ_ w4=>
Jn [] (λJ0=>
Lp [.int .u64,.int .i64] (λ(c:Int)(x:Int) w5 C0=>
cond (decide ((x:Int)<(s2.n:Int))) (
Jn [.bool] (λJ1=>
cond (decide ((x:Int)≥(s1.n:Int))) (
J1 ((c:Int) == 0) w5) (
J1 false w5)) λ(x1:Bool) w6=>
cond x1 (
J0 w6) (
Jn [.int .u64,.int .u64] (λJ2=>
cond (decide ((x:Int)<(s1.n:Int))) (
ixa s1 x 1 λa1=>
ldc (.int .u64) w6 a1 λ(v:Int)=>
cl Pg F.aR [.int .u64 v,.int .u64 y] w6 [.one (.int .u64),.one (.int .u64)] λ(r:Int)(r1:Int) w7=>
J2 r r1 w7) (
J2 0 0 w6)) λ(hi:Int)(lo:Int) w8=>
fS lo c 0 λs3 c1=>
bnd (wu (hi+c1)) λn4=>
ixa s2 x 1 λa2=>
ldc (.int .u64) w8 a2 λ(v1:Int)=>
fS v1 s3 0 λs4 c2=>
ixa s2 x 1 λa3=>
stc w8 a3 (.int .u64 s4) λw9=>
bnd (wu (n4+c2)) λn5=>
bnd (wi (x+1)) λn6=>
C0 n5 n6 w9)) (
J0 w5)) 0 0 w4) fun  w10=>
cl Pg F.aV [s2.v] w10 [.one .slice] λ(s5:Sl) w11=>
R (s5.v) w11
theorem Ct.gk(h:Sh.gk a b y (Rt X [.one .slice] K w) w.here):Ct Pg F.gk [a.v,b.v,.int .u64 y] w X [.one .slice] K:=
 cod (Sh.gk a b y) 82 [] [] [(2,0,[]),(3,6,[(8,.one (.int .u64)),(31,.one (.int .i64))]),(0,8,[(41,.one .bool)]),(1,11,[(10,.one (.int .u64)),(11,.one (.int .u64))])] f151 h
def Sh.cK(k:Int)(parts:Sl)(R:Value→TW→Prop)(w:TW):Prop:=
cl Pg F.eQ [.int .i64 k,.int .i64 16384] w [.one (.int .i64)] λ(r:Int) w1=>
Jn [.int .i64] (λJ0=>
Lp [.int .i64,.int .i64] (λ(n:Int)(x:Int) w2 C0=>
cond (decide ((x:Int)<(parts.n:Int))) (
ixa parts x 1 λa=>
ldc (.slice) w2 a λ(v:Sl)=>
cl Pg F.aS [v.v] w2 [.one (.int .i64)] λ(r1:Int) w3=>
Jn [.int .i64] (λJ1=>
cond (decide ((r1:Int)>0)) (
bnd (wi (r*x)) λn1=>
bnd (wi (n1+r1)) λn2=>
bnd (if (n2:Int)>n then n2 else n) λn3=>
J1 n3 w3) (
J1 n w3)) λ(n4:Int) w4=>
bnd (wi (x+1)) λn5=>
C0 n4 n5 w4) (
J0 n w2)) 0 0 w1) λ(n6:Int) w5=>
bnd (wi (n6+2)) λn7=>
mks w5 n7 n7 T.ar 8 [.int .u64 0] λs w6=>
Jn [] (λJ2=>
Lp [.int .i64] (λ(x1:Int) w7 C1=>
cond (decide ((x1:Int)<(parts.n:Int))) (
ixa parts x1 1 λa1=>
ldc (.slice) w7 a1 λ(v1:Sl)=>
cl Pg F.aV [v1.v] w7 [.one .slice] λ(s1:Sl) w8=>
Jn [] (λJ3=>
Lp [.int .u64,.int .i64] (λ(c:Int)(j:Int) w9 C2=>
Jn [.bool] (λJ4=>
cond (decide ((j:Int)<(s1.n:Int))) (
J4 true w9) (
J4 (decide ((c:Int)>0)) w9)) λ(x2:Bool) w10=>
cond x2 (
Jn [.int .u64] (λJ5=>
cond (decide ((j:Int)<(s1.n:Int))) (
ixa s1 j 1 λa2=>
ldc (.int .u64) w10 a2 λ(v2:Int)=>
J5 v2 w10) (
J5 0 w10)) λ(y:Int) w11=>
bnd (wi (r*x1)) λn8=>
bnd (wi (n8+j)) λn9=>
bnd (wi (r*x1)) λn10=>
bnd (wi (n10+j)) λn11=>
ixa s n11 1 λa3=>
ldc (.int .u64) w11 a3 λ(v3:Int)=>
fS v3 y c λs2 c1=>
ixa s n9 1 λa4=>
stc w11 a4 (.int .u64 s2) λw12=>
bnd (wi (j+1)) λn12=>
C2 c1 n12 w12) (
J3 w10)) 0 0 w8) fun  w13=>
bnd (wi (x1+1)) λn13=>
C1 n13 w13) (
J2 w7)) 0 w6) fun  w14=>
cl Pg F.aV [s.v] w14 [.one .slice] λ(s3:Sl) w15=>
R (s3.v) w15
theorem Ct.cK{parts:Sl}(h:Sh.cK k parts (Rt X [.one .slice] K w) w.here):Ct Pg F.cK [.int .i64 k,parts.v] w X [.one .slice] K:=
 cod (Sh.cK k parts) 90 [] [] [(2,0,[(5,.one (.int .i64))]),(3,4,[(5,.one (.int .i64)),(19,.one (.int .i64))]),(1,8,[(5,.one (.int .i64))]),(2,2,[]),(3,12,[(41,.one (.int .i64))]),(2,4,[]),(3,17,[(12,.one (.int .u64)),(13,.one (.int .i64))]),(0,17,[(55,.one .bool)]),(1,21,[(14,.one (.int .u64))])] f163 h
def Sh.eQ(n:Int)(most:Int)(R:Value→TW→Prop)(w:TW):Prop:=
bnd (if (most:Int)<n then most else n) λn1=>
bnd (if (n1:Int)>0 then n1 else 0) λn2=>
R (.int .i64 n2) w
theorem Ct.eQ{most:Int}{K:KT [.one (.int .i64)]}(h:Sh.eQ n most (Rt X [.one (.int .i64)] K w) w.here):Ct Pg F.eQ [.int .i64 n,.int .i64 most] w X [.one (.int .i64)] K:=
 cod (Sh.eQ n most) 9 [] [] [] f170 h
def Sh.fy(a:Sl)(k:Int)(R:Value→TW→Prop)(w:TW):Prop:=
cl Pg F.eQ [.int .i64 k,.int .i64 16384] w [.one (.int .i64)] λ(r:Int) w1=>
cl Pg F.aV [a.v] w1 [.one .slice] λ(s:Sl) w2=>
cond (decide ((r:Int)≥(s.n:Int))) (
apd w2 T.ar 1 8 Sl.nil s λs1 w3=>
R (.tuple #[s1.v,.slice none 0 0]) w3) (
slc s 0 r 1 λs2=>
slc s r (s.n:Nat) 1 λs3=>
cl Pg F.bk [s2.v] w2.drew [.one .slice] λ(s4:Sl) w4=>
apd w4 T.ar 1 8 Sl.nil s3 λs5 w5=>
R (.tuple #[s4.v,s5.v]) w5)
theorem Ct.fy{K:KT [.one .slice,.one .slice]}(h:Sh.fy a k (Rt X [.one .slice,.one .slice] K w) w.here):Ct Pg F.fy [a.v,.int .i64 k] w X [.one .slice,.one .slice] K:=
 cod (Sh.fy a k) 24 [] [] [] f195 h
def Sh.gj(a:Sl)(b:Sl)(y:Int)(R:Value→TW→Prop)(w:TW):Prop:=
cl Pg F.fp [b.v,.int .u64 y] w [.one .slice] λ(s:Sl) w1=>
cl Pg F.bB [a.v,s.v] w1 [.one .slice,.one .bool] λ(s1:Sl)(ok:Bool) w2=>
R (.tuple #[s1.v,.bool ok]) w2
theorem Ct.gj{K:KT [.one .slice,.one .bool]}(h:Sh.gj a b y (Rt X [.one .slice,.one .bool] K w) w.here):Ct Pg F.gj [a.v,b.v,.int .u64 y] w X [.one .slice,.one .bool] K:=
 cod (Sh.gj a b y) 15 [] [] [] f201 h
def Sh.iZ(l:Sl)(R:Value→TW→Prop)(w:TW):Prop:=
cl Pg F.cK [.int .i64 0,l.v] w [.one .slice] λ(s:Sl) w1=>
R (s.v) w1
theorem Ct.iZ{l:Sl}(h:Sh.iZ l (Rt X [.one .slice] K w) w.here):Ct Pg F.iZ [l.v] w X [.one .slice] K:=
 cod (Sh.iZ l) 5 [] [] [] f246 h
end
section
set_option maxRecDepth 100000
open Go.Proofs.Tryz
variable {m:Option Addr} {w:TW} {X:Nat→Prop} {K:KT [.one (.int .i64)]}
def Sh.ba(m:Option Addr)(n:Int)(R:Value→TW→Prop)(w:TW):Prop:=
Jn [] (λJ0=>
cond (decide ((n:Int)>0)) (
nck m λa=>
ldc (.int .i64) w a λ(v:Int)=>
bnd (wi (v+n)) λn1=>
nck m λa1=>
stc w a1 (.int .i64 n1) λw1=>
J0 w1) (
J0 w)) fun  w2=>
nck m λa2=>
ldc (.int .i64) w2 a2 λ(v1:Int)=>
R (.int .i64 v1) w2
theorem Ct.ba{n:Int}(h:Sh.ba m n (Rt X [.one (.int .i64)] K w) w.here):Ct Pg F.ba [.pointer m,.int .i64 n] w X [.one (.int .i64)] K:=
 cod (Sh.ba m n) 20 [] [] [(1,2,[])] f147 h
def Sh.bI(m:Option Addr)(R:Value→TW→Prop)(w:TW):Prop:=
nck m λa=>
ldc (.int .i64) w (a.add 1) λ(v:Int)=>
bnd (wi (v+1)) λn=>
nck m λa1=>
stc w (a1.add 1) (.int .i64 n) λw1=>
nck m λa2=>
ldc (.int .i64) w1.drew (a2.add 2) λ(v1:Int)=>
nck m λa3=>
ldc (.int .i64) w1.drew (a3.add 1) λ(v2:Int)=>
bnd (if (v2:Int)>v1 then v2 else v1) λn1=>
nck m λa4=>
stc w1.drew (a4.add 2) (.int .i64 n1) λw2=>
nck m λa5=>
ldc (.int .i64) w2 (a5.add 1) λ(v3:Int)=>
R (.int .i64 v3) w2
theorem Ct.bI(h:Sh.bI m (Rt X [.one (.int .i64)] K w) w.here):Ct Pg F.bI [.pointer m] w X [.one (.int .i64)] K:=
 cod (Sh.bI m) 26 [] [] [] f194 h
def Sh.bH(m:Option Addr)(R:Value→TW→Prop)(w:TW):Prop:=
nck m λa=>
ldc (.int .i64) w (a.add 1) λ(v:Int)=>
Jn [] (λJ0=>
cond (decide ((v:Int)>0)) (
nck m λa1=>
ldc (.int .i64) w (a1.add 1) λ(v1:Int)=>
bnd (wi (v1-1)) λn=>
nck m λa2=>
stc w (a2.add 1) (.int .i64 n) λw1=>
J0 w1) (
J0 w)) fun  w2=>
nck m λa3=>
ldc (.int .i64) w2 (a3.add 1) λ(v2:Int)=>
R (.int .i64 v2) w2
theorem Ct.bH(h:Sh.bH m (Rt X [.one (.int .i64)] K w) w.here):Ct Pg F.bH [.pointer m] w X [.one (.int .i64)] K:=
 cod (Sh.bH m) 19 [] [] [(1,2,[])] f197 h
end
section
set_option maxRecDepth 100000
open Go.Proofs.Tryz
def Sh.jE(t:HL I11)(R:Value→TW→Prop)(w:TW):Prop:=
nwv w λw1=>
cl Pg F.jF [.agg (aX I11 t).toArray] w1 [.one .ptr] λ(p:Option Addr) w2=>
nwb w2 [.pointer p] T.uE λb w3=>
R (.pointer (some ⟨b,0,none⟩)) w3
theorem Ct.jE{t:HL I11}{w:TW}{X:Nat→Prop}{K:KT [.one .ptr]}(h:Sh.jE t (Rt X [.one .ptr] K w) w.here):Ct Pg F.jE [.agg (aX I11 t).toArray] w X [.one .ptr] K:=
 cod (Sh.jE t) 7 [(1,7)] [(7,11)] [] f108 h
end
end Go.Proofs.YtpbimnlggalnfaaGreatDoor.Zg
