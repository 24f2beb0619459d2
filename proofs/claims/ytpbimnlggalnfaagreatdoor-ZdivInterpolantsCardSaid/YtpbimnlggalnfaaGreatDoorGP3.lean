/- A part of the proofs of this seat's laws. -/
import Derived.Test.YtpbimnlggalnfaaGreatDoorGC
set_option linter.unusedVariables false
set_option linter.unusedSimpArgs false
set_option linter.unnecessarySimpa false
namespace Go.Proofs.YtpbimnlggalnfaaGreatDoor.Zg
open Go.RowKit
section
set_option maxRecDepth 100000
open Go.Proofs.Tryz
variable {a n p:Int} {w:TW} {X:Nat→Prop} {K:KT [.one .bool]}
def Sh.jh(n:Int)(R:Value→TW→Prop)(w:TW):Prop:=
cond (decide ((n:Int)<2)) (
R (.bool false) w) (
nwv w λw1=>
nwv w1 λw2=>
Jn [.int .u64,.int .u64,.int .u64,.int .u64,.int .u64,.int .u64,.int .u64,.int .u64,.int .u64,.int .u64,.int .u64,.int .u64] (λJ0=>
Lp [.int .i64,.int .u64,.int .u64,.int .u64,.int .u64,.int .u64,.int .u64,.int .u64,.int .u64,.int .u64,.int .u64,.int .u64,.int .u64] (λ(x:Int)(small:Int)(small1:Int)(small2:Int)(small3:Int)(small4:Int)(small5:Int)(small6:Int)(small7:Int)(small8:Int)(small9:Int)(small10:Int)(small11:Int) w3 C0=>
cond (decide ((x:Int)<12)) (
inr x 12 (ixq (.int .u64) [.int .u64 2,.int .u64 3,.int .u64 5,.int .u64 7,.int .u64 11,.int .u64 13,.int .u64 17,.int .u64 19,.int .u64 23,.int .u64 29,.int .u64 31,.int .u64 37] (Int.toNat x*1) λ(v:Int)=>
cR n v λn1=>
cond ((n1:Int) == 0) (
R (.bool ((n:Int) == v)) w3) (
bnd (wi (x+1)) λn2=>
C0 n2 small small1 small2 small3 small4 small5 small6 small7 small8 small9 small10 small11 w3))) (
J0 small small1 small2 small3 small4 small5 small6 small7 small8 small9 small10 small11 w3)) 0 2 3 5 7 11 13 17 19 23 29 31 37 w2) λ(small12:Int)(small13:Int)(small14:Int)(small15:Int)(small16:Int)(small17:Int)(small18:Int)(small19:Int)(small20:Int)(small21:Int)(small22:Int)(small23:Int) w4=>
bnd (wu (n-1)) λn3=>
cl Pg F.bU [.int .u64 n3] w4 [.one (.int .i64)] λ(r:Int) w5=>
bnd (wu (n-1)) λn4=>
bnd (wu (r)) λn5=>
fF .u64 n4 n5 λn6=>
Jn [] (λJ1=>
Lp [.int .i64] (λ(x1:Int) w6 C1=>
cond (decide ((x1:Int)<12)) (
inr x1 12 (ixq (.int .u64) [.int .u64 small12,.int .u64 small13,.int .u64 small14,.int .u64 small15,.int .u64 small16,.int .u64 small17,.int .u64 small18,.int .u64 small19,.int .u64 small20,.int .u64 small21,.int .u64 small22,.int .u64 small23] (Int.toNat x1*1) λ(v1:Int)=>
cl Pg F.fu [.int .u64 v1,.int .u64 n,.int .u64 n6,.int .i64 r] w6 [.one .bool] λ(ok:Bool) w7=>
cond ok (
R (.bool false) w7) (
bnd (wi (x1+1)) λn7=>
C1 n7 w7))) (
J1 w6)) 0 w5) fun  w8=>
R (.bool true) w8)
theorem Ct.jh(h:Sh.jh n (Rt X [.one .bool] K w) w.here):Ct Pg F.jh [.int .u64 n] w X [.one .bool] K:=
 cod (Sh.jh n) 43 [(3,43)] [(43,12)] [(2,0,[(43,.one (.int .u64)),(44,.one (.int .u64)),(45,.one (.int .u64)),(46,.one (.int .u64)),(47,.one (.int .u64)),(48,.one (.int .u64)),(49,.one (.int .u64)),(50,.one (.int .u64)),(51,.one (.int .u64)),(52,.one (.int .u64)),(53,.one (.int .u64)),(54,.one (.int .u64))]),(3,5,[(14,.one (.int .i64)),(43,.one (.int .u64)),(44,.one (.int .u64)),(45,.one (.int .u64)),(46,.one (.int .u64)),(47,.one (.int .u64)),(48,.one (.int .u64)),(49,.one (.int .u64)),(50,.one (.int .u64)),(51,.one (.int .u64)),(52,.one (.int .u64)),(53,.one (.int .u64)),(54,.one (.int .u64))]),(2,2,[]),(3,13,[(34,.one (.int .i64))])] f143 h
def Sh.fu(a:Int)(n:Int)(d:Int)(s:Int)(R:Value→TW→Prop)(w:TW):Prop:=
cR a n λn1=>
cl Pg F.iT [.int .u64 n1,.int .u64 d,.int .u64 n] w [.one (.int .u64)] λ(r:Int) w1=>
Jn [.bool] (λJ0=>
cond ((r:Int) == 0) (
J0 true w1) (
cond ((r:Int) == 1) (
J0 true w1) (
bnd (wu (n-1)) λn2=>
J0 ((r:Int) == n2) w1))) λ(x:Bool) w2=>
cond x (
R (.bool false) w2) (
bnd (wi (s-1)) λn3=>
Jn [] (λJ1=>
Lp [.int .u64,.int .i64] (λ(x1:Int)(x2:Int) w3 C0=>
cond (decide ((x2:Int)<n3)) (
cl Pg F.gp [.int .u64 x1,.int .u64 x1,.int .u64 n] w3 [.one (.int .u64)] λ(r1:Int) w4=>
bnd (wu (n-1)) λn4=>
cond ((r1:Int) == n4) (
R (.bool false) w4) (
bnd (wi (x2+1)) λn5=>
C0 r1 n5 w4)) (
J1 w3)) r 0 w2) fun  w5=>
R (.bool true) w5)
theorem Ct.fu{d:Int}{s:Int}(h:Sh.fu a n d s (Rt X [.one .bool] K w) w.here):Ct Pg F.fu [.int .u64 a,.int .u64 n,.int .u64 d,.int .i64 s] w X [.one .bool] K:=
 cod (Sh.fu a n d s) 41 [] [] [(0,2,[(27,.one .bool)]),(2,0,[]),(3,5,[(9,.one (.int .u64)),(30,.one (.int .i64))])] f173 h
def Sh.iT(a:Int)(k:Int)(n:Int)(R:Value→TW→Prop)(w:TW):Prop:=
cR 1 n λn1=>
Jn [.int .u64] (λJ0=>
Lp [.int .u64,.int .u64,.int .u64] (λ(a1:Int)(k1:Int)(out:Int) w1 C0=>
cond (decide ((k1:Int)>0)) (
cR k1 2 λn2=>
Jn [.int .u64] (λJ1=>
cond ((n2:Int) == 1) (
cl Pg F.gp [.int .u64 out,.int .u64 a1,.int .u64 n] w1 [.one (.int .u64)] λ(r:Int) w2=>
J1 r w2) (
J1 out w1)) λ(out1:Int) w3=>
cl Pg F.gp [.int .u64 a1,.int .u64 a1,.int .u64 n] w3 [.one (.int .u64)] λ(r1:Int) w4=>
eH .u64 k1 2 λn3=>
C0 r1 n3 out1 w4) (
J0 out w1)) a k n1 w) λ(out2:Int) w5=>
R (.int .u64 out2) w5
theorem Ct.iT{k:Int}{K:KT [.one (.int .u64)]}(h:Sh.iT a k n (Rt X [.one (.int .u64)] K w) w.here):Ct Pg F.iT [.int .u64 a,.int .u64 k,.int .u64 n] w X [.one (.int .u64)] K:=
 cod (Sh.iT a k n) 26 [] [] [(2,0,[(7,.one (.int .u64))]),(3,2,[(0,.one (.int .u64)),(1,.one (.int .u64)),(7,.one (.int .u64))]),(1,4,[(7,.one (.int .u64))])] f202 h
def Sh.gp(a:Int)(b:Int)(n:Int)(R:Value→TW→Prop)(w:TW):Prop:=
cl Pg F.aR [.int .u64 a,.int .u64 b] w [.one (.int .u64),.one (.int .u64)] λ(r:Int)(r1:Int) w1=>
cl Pg F.eG [.int .u64 r,.int .u64 r1,.int .u64 n] w1 [.one (.int .u64),.one (.int .u64)] λ(_:Int)(r3:Int) w2=>
R (.int .u64 r3) w2
theorem Ct.gp{b:Int}{K:KT [.one (.int .u64)]}(h:Sh.gp a b n (Rt X [.one (.int .u64)] K w) w.here):Ct Pg F.gp [.int .u64 a,.int .u64 b,.int .u64 n] w X [.one (.int .u64)] K:=
 cod (Sh.gp a b n) 25 [] [] [] f203 h
def Sh.iU(p:Int)(R:Value→TW→Prop)(w:TW):Prop:=
Jn [.bool] (λJ0=>
cR p 2 λn=>
cond ((n:Int) == 0) (
J0 true w) (
cond (decide ((p:Int)≥4611686018427387904)) (
J0 true w) (
cl Pg F.jh [.int .u64 p] w [.one .bool] λ(ok:Bool) w1=>
J0 (!ok) w1))) λ(x:Bool) w2=>
cond x (
R (.tuple #[.pointer none,.int .i64 3]) w2) (
cl Pg F.gG [.int .u64 p] w2 [.one .ptr,.one (.int .i64)] λ(p1:Option Addr)(r:Int) w3=>
R (.tuple #[.pointer p1,.int .i64 r]) w3)
theorem Ct.iU{K:KT [.one .ptr,.one (.int .i64)]}(h:Sh.iU p (Rt X [.one .ptr,.one (.int .i64)] K w) w.here):Ct Pg F.iU [.int .u64 p] w X [.one .ptr,.one (.int .i64)] K:=
 cod (Sh.iU p) 20 [] [] [(0,1,[(15,.one .bool)])] f204 h
def Sh.gg(R:Value→TW→Prop)(w:TW):Prop:=
nwv w λw1=>
nwv w1 λw2=>
R (.agg #[.int .u64 180143985094819841,.int .i64 55,.int .u64 6,.int .u64 1945555039024054273,.int .i64 56,.int .u64 5,.int .u64 4179340454199820289,.int .i64 57,.int .u64 3]) w2
theorem Ct.gg{K:KT [.agg [.int .u64,.int .i64,.int .u64,.int .u64,.int .i64,.int .u64,.int .u64,.int .i64,.int .u64]]}(h:Sh.gg (Rt X [.agg [.int .u64,.int .i64,.int .u64,.int .u64,.int .i64,.int .u64,.int .u64,.int .i64,.int .u64]] K w) w.here):Ct Pg F.gg [] w X [.agg [.int .u64,.int .i64,.int .u64,.int .u64,.int .i64,.int .u64,.int .u64,.int .i64,.int .u64]] K:=
 cod Sh.gg 5 [(0,5)] [(5,9)] [] f261 h
def Sh.gZ(p:Int)(log:Int)(R:Value→TW→Prop)(w:TW):Prop:=
cl Pg F.iU [.int .u64 p] w [.one .ptr,.one (.int .i64)] λ(p1:Option Addr)(r:Int) w1=>
cond ((r:Int) != 0) (
R (.tuple #[.int .u64 0,.int .i64 r]) w1) (
Jn [.bool] (λJ0=>
cond (decide ((log:Int)<0)) (
J0 true w1) (
cond (decide ((log:Int)>20)) (
J0 true w1) (
bnd (wu (p-1)) λn=>
bnd (wu (log)) λn1=>
iy .u64 1 n1 λn2=>
cR n n2 λn3=>
J0 ((n3:Int) != 0) w1))) λ(x:Bool) w2=>
cond x (
R (.tuple #[.int .u64 0,.int .i64 1]) w2) (
cond ((log:Int) == 0) (
R (.tuple #[.int .u64 1,.int .i64 0]) w2) (
Jn [.int .u64] (λJ1=>
Lp [.int .u64] (λ(x1:Int) w3 C0=>
bnd (wu (p-1)) λn4=>
eH .u64 n4 2 λn5=>
cl Pg F.fo [.pointer p1,.int .u64 x1,.int .u64 n5] w3 [.one (.int .u64)] λ(r1:Int) w4=>
bnd (wu (p-1)) λn6=>
cond ((r1:Int) != n6) (
bnd (wu (x1+1)) λn7=>
C0 n7 w4) (
J1 x1 w4)) 2 w2) λ(x2:Int) w5=>
bnd (wu (p-1)) λn8=>
bnd (wu (log)) λn9=>
fF .u64 n8 n9 λn10=>
cl Pg F.fo [.pointer p1,.int .u64 x2,.int .u64 n10] w5 [.one (.int .u64)] λ(r2:Int) w6=>
R (.tuple #[.int .u64 r2,.int .i64 0]) w6)))
theorem Ct.gZ{log:Int}{K:KT [.one (.int .u64),.one (.int .i64)]}(h:Sh.gZ p log (Rt X [.one (.int .u64),.one (.int .i64)] K w) w.here):Ct Pg F.gZ [.int .u64 p,.int .i64 log] w X [.one (.int .u64),.one (.int .i64)] K:=
 cod (Sh.gZ p log) 53 [] [] [(0,4,[(31,.one .bool)]),(2,0,[(8,.one (.int .u64))]),(3,9,[(8,.one (.int .u64))])] f263 h
end
section
set_option maxRecDepth 100000
open Go.Proofs.Tryz
def Sh.jd(t:HL I11)(R:Value→TW→Prop)(w:TW):Prop:=
nwv w λw1=>
cl Pg F.jC [.agg (aX I11 t).toArray] w1 [.one .ptr] λ(p:Option Addr) w2=>
nwb w2 [.pointer p] T.ug λb w3=>
R (.pointer (some ⟨b,0,none⟩)) w3
theorem Ct.jd{t:HL I11}{w:TW}{X:Nat→Prop}{K:KT [.one .ptr]}(h:Sh.jd t (Rt X [.one .ptr] K w) w.here):Ct Pg F.jd [.agg (aX I11 t).toArray] w X [.one .ptr] K:=
 cod (Sh.jd t) 7 [(1,7)] [(7,11)] [] f251 h
end
section
set_option maxRecDepth 100000
open Go.Proofs.Tryz
variable {e0:Option Addr} {d x:Sl} {n:Int} {w:TW} {X:Nat→Prop} {K:KT [.one .slice]}
def Sh.dc(e0:Option Addr)(d:Sl)(n:Int)(R:Value→TW→Prop)(w:TW):Prop:=
cl Pg F.bn [d.v] w [.one .bool] λ(ok:Bool) w1=>
cond ok (
R (.tuple #[.slice none 0 0,.int .i64 2]) w1) (
Jn [.bool] (λJ0=>
cond (decide ((n:Int)<0)) (
J0 true w1) (
J0 (decide ((n:Int)>1048576)) w1)) λ(x:Bool) w2=>
cond x (
R (.tuple #[.slice none 0 0,.int .i64 1]) w2) (
cl Pg F.dh [d.v] w2 [.one (.int .i64)] λ(r:Int) w3=>
bnd (wi (r-1)) λn1=>
cond (decide ((n:Int)<n1)) (
R (.tuple #[.slice none 0 0,.int .i64 0]) w3) (
cl Pg F.bk [d.v] w3 [.one .slice] λ(s:Sl) w4=>
cl Pg F.ci [.pointer e0,s.v,.int .i64 n] w4 [.one .slice] λ(s1:Sl) w5=>
R (.tuple #[s1.v,.int .i64 0]) w5)))
theorem Ct.dc{K:KT [.one .slice,.one (.int .i64)]}(h:Sh.dc e0 d n (Rt X [.one .slice,.one (.int .i64)] K w) w.here):Ct Pg F.dc [.pointer e0,d.v,.int .i64 n] w X [.one .slice,.one (.int .i64)] K:=
 cod (Sh.dc e0 d n) 26 [] [] [(0,3,[(15,.one .bool)])] f161 h
def Sh.ci(e0:Option Addr)(d:Sl)(n:Int)(R:Value→TW→Prop)(w:TW):Prop:=
cl Pg F.dh [d.v] w [.one (.int .i64)] λ(r:Int) w1=>
bnd (wi (n-r)) λn1=>
bnd (wi (n1+1)) λn2=>
Jn [.bool] (λJ0=>
nck e0 λa=>
ldc (.ptr) w1 a λ(v:Option Addr)=>
nck v λa1=>
ldc (.ptr) w1 a1 λ(v1:Option Addr)=>
nck v1 λa2=>
ldc (.ptr) w1 a2 λ(v2:Option Addr)=>
nck v2 λa3=>
ldc (.ptr) w1 a3 λ(v3:Option Addr)=>
nck v3 λa4=>
ldc (.ptr) w1 a4 λ(v4:Option Addr)=>
nck v4 λa5=>
ldc (.ptr) w1 a5 λ(v5:Option Addr)=>
nck v5 λa6=>
ldc (.int .i64) w1 ((a6.add 3).add 4) λ(v6:Int)=>
cond (decide (((d.n:Int):Int)<v6)) (
J0 true w1) (
J0 (decide ((n2:Int)≤64)) w1)) λ(x:Bool) w2=>
cond x (
nck e0 λa7=>
ldc (.ptr) w2.drew a7 λ(v7:Option Addr)=>
cl Pg F.fj [.int .i64 n] w2.drew [.one .slice] λ(s:Sl) w3=>
hld w3 [(a7,.pointer v7)] <|
cl Pg F.cm [.pointer v7,s.v,d.v] w3 [.one .slice,.one .slice,.one (.int .i64)] λ(s1:Sl)(_:Sl)(_:Int) w4=>
R (s1.v) w4) (
nck e0 λa8=>
ldc (.ptr) w2 a8 λ(v8:Option Addr)=>
nck v8 λa9=>
ldc (.ptr) w2 a9 λ(v9:Option Addr)=>
nck v9 λa10=>
ldc (.ptr) w2 a10 λ(v10:Option Addr)=>
nck v10 λa11=>
ldc (.ptr) w2 a11 λ(v11:Option Addr)=>
nck v11 λa12=>
ldc (.ptr) w2 a12 λ(v12:Option Addr)=>
nck v12 λa13=>
ldc (.ptr) w2 a13 λ(v13:Option Addr)=>
nck v13 λa14=>
cl Pg F.bI [.pointer (some a14)] w2 [.one (.int .i64)] λ(_:Int) w5=>
eH .i64 n2 2 λn3=>
bnd (wi (n3+4)) λn4=>
cl Pg F.dh [d.v] w5 [.one (.int .i64)] λ(r3:Int) w6=>
bnd (wi (r3-n4)) λn5=>
bnd (wi (n5-4)) λn6=>
bnd (if (n6:Int)>0 then n6 else 0) λn7=>
cl Pg F.cS [d.v,.int .i64 n7] w6 [.one .slice] λ(s3:Sl) w7=>
cl Pg F.dh [s3.v] w7 [.one (.int .i64)] λ(r4:Int) w8=>
bnd (wi (r4-1)) λn8=>
bnd (wi (n8+n4)) λn9=>
cl Pg F.ci [.pointer e0,s3.v,.int .i64 n9] w8 [.one .slice] λ(s4:Sl) w9=>
bnd (wi (n-n9)) λn10=>
bnd (wi (n10-n7)) λn11=>
bnd (if (n11:Int)>0 then n11 else 0) λn12=>
cl Pg F.dY [s4.v,.int .i64 n12] w9 [.one .slice] λ(s5:Sl) w10=>
bnd (wi (n9+n7)) λn13=>
bnd (wi (n13-n)) λn14=>
bnd (if (n14:Int)>0 then n14 else 0) λn15=>
cl Pg F.cS [s5.v,.int .i64 n15] w10 [.one .slice] λ(s6:Sl) w11=>
cl Pg F.dF [.pointer e0,d.v,s6.v,.int .i64 n] w11 [.one .slice] λ(s7:Sl) w12=>
nck e0 λa15=>
ldc (.ptr) w12 a15 λ(v14:Option Addr)=>
nck v14 λa16=>
ldc (.ptr) w12 a16 λ(v15:Option Addr)=>
nck v15 λa17=>
ldc (.ptr) w12 a17 λ(v16:Option Addr)=>
nck v16 λa18=>
ldc (.ptr) w12 a18 λ(v17:Option Addr)=>
nck v17 λa19=>
ldc (.ptr) w12 a19 λ(v18:Option Addr)=>
nck v18 λa20=>
ldc (.ptr) w12 a20 λ(v19:Option Addr)=>
nck v19 λa21=>
cl Pg F.bH [.pointer (some a21)] w12 [.one (.int .i64)] λ(_:Int) w13=>
cl Pg F.cZ [.pointer e0,d.v,s7.v,.int .i64 n] w13 [.one .slice] λ(s8:Sl) w14=>
R (s8.v) w14)
theorem Ct.ci(h:Sh.ci e0 d n (Rt X [.one .slice] K w) w.here):Ct Pg F.ci [.pointer e0,d.v,.int .i64 n] w X [.one .slice] K:=
 cod (Sh.ci e0 d n) 155 [] [] [(0,2,[(50,.one .bool)])] f193 h
def Sh.fj(n:Int)(R:Value→TW→Prop)(w:TW):Prop:=
cl Pg F.dk [.int .u64 1] w [.one .slice] λ(s:Sl) w1=>
cl Pg F.dY [s.v,.int .i64 n] w1 [.one .slice] λ(s1:Sl) w2=>
R (s1.v) w2
theorem Ct.fj(h:Sh.fj n (Rt X [.one .slice] K w) w.here):Ct Pg F.fj [.int .i64 n] w X [.one .slice] K:=
 cod (Sh.fj n) 6 [] [] [] f227 h
def Sh.dF(e0:Option Addr)(d:Sl)(x:Sl)(n:Int)(R:Value→TW→Prop)(w:TW):Prop:=
nck e0 λa=>
ldc (.ptr) w a λ(v:Option Addr)=>
nck v λa1=>
ldc (.ptr) w a1 λ(v1:Option Addr)=>
cl Pg F.aN [.pointer v1,d.v,x.v] w [.one .slice] λ(s:Sl) w1=>
cl Pg F.fj [.int .i64 n] w1 [.one .slice] λ(s1:Sl) w2=>
cl Pg F.bB [s1.v,s.v] w2 [.one .slice,.one .bool] λ(s2:Sl)(ok:Bool) w3=>
cond ok (
nck e0 λa2=>
ldc (.ptr) w3 a2 λ(v2:Option Addr)=>
nck v2 λa3=>
ldc (.ptr) w3 a3 λ(v3:Option Addr)=>
cl Pg F.aN [.pointer v3,x.v,s2.v] w3 [.one .slice] λ(s3:Sl) w4=>
cl Pg F.cS [s3.v,.int .i64 n] w4 [.one .slice] λ(s4:Sl) w5=>
cl Pg F.cT [x.v,s4.v] w5 [.one .slice] λ(s5:Sl) w6=>
R (s5.v) w6) (
cl Pg F.bB [s.v,s1.v] w3 [.one .slice,.one .bool] λ(s6:Sl)(_:Bool) w7=>
nck e0 λa4=>
ldc (.ptr) w7 a4 λ(v4:Option Addr)=>
nck v4 λa5=>
ldc (.ptr) w7 a5 λ(v5:Option Addr)=>
cl Pg F.aN [.pointer v5,x.v,s6.v] w7 [.one .slice] λ(s7:Sl) w8=>
cl Pg F.cS [s7.v,.int .i64 n] w8 [.one .slice] λ(s8:Sl) w9=>
cl Pg F.dk [.int .u64 1] w9 [.one .slice] λ(s9:Sl) w10=>
cl Pg F.cT [s8.v,s9.v] w10 [.one .slice] λ(s10:Sl) w11=>
cl Pg F.bB [x.v,s10.v] w11 [.one .slice,.one .bool] λ(s11:Sl)(ok2:Bool) w12=>
cond (!ok2) (
R (.slice none 0 0) w12) (
R (s11.v) w12))
theorem Ct.dF(h:Sh.dF e0 d x n (Rt X [.one .slice] K w) w.here):Ct Pg F.dF [.pointer e0,d.v,x.v,.int .i64 n] w X [.one .slice] K:=
 cod (Sh.dF e0 d x n) 80 [] [] [] f228 h
def Sh.cZ(e0:Option Addr)(d:Sl)(x:Sl)(n:Int)(R:Value→TW→Prop)(w:TW):Prop:=
cl Pg F.fj [.int .i64 n] w [.one .slice] λ(s:Sl) w1=>
nck e0 λa=>
ldc (.ptr) w1 a λ(v:Option Addr)=>
nck v λa1=>
ldc (.ptr) w1 a1 λ(v1:Option Addr)=>
cl Pg F.aN [.pointer v1,d.v,x.v] w1 [.one .slice] λ(s1:Sl) w2=>
Jn [] (λJ0=>
Lp [.slice,.slice,.int .i64] (λ(x1:Sl)(p:Sl)(x2:Int) w3 C0=>
cond (decide ((x2:Int)<8)) (
Jn [.slice,.slice] (λJ1=>
cl Pg F.bB [s.v,p.v] w3 [.one .slice,.one .bool] λ(s2:Sl)(ok:Bool) w4=>
cond (!ok) (
cl Pg F.dk [.int .u64 1] w4 [.one .slice] λ(s3:Sl) w5=>
cl Pg F.bB [x1.v,s3.v] w5 [.one .slice,.one .bool] λ(s4:Sl)(_:Bool) w6=>
cl Pg F.bB [p.v,d.v] w6 [.one .slice,.one .bool] λ(s5:Sl)(_:Bool) w7=>
J1 s4 s5 w7) (
cl Pg F.eP [s2.v,d.v] w4 [.one (.int .i64)] λ(r:Int) w8=>
cond (decide ((r:Int)<0)) (
R (x1.v) w8) (
cl Pg F.dk [.int .u64 1] w8 [.one .slice] λ(s6:Sl) w9=>
cl Pg F.cT [x1.v,s6.v] w9 [.one .slice] λ(s7:Sl) w10=>
cl Pg F.cT [p.v,d.v] w10 [.one .slice] λ(s8:Sl) w11=>
J1 s7 s8 w11))) λ(x3:Sl)(p1:Sl) w12=>
bnd (wi (x2+1)) λn1=>
C0 x3 p1 n1 w12) (
J0 w3)) x s1 0 w2) fun  w13=>
nck e0 λa2=>
ldc (.ptr) w13 a2 λ(v2:Option Addr)=>
cl Pg F.cm [.pointer v2,s.v,d.v] w13 [.one .slice,.one .slice,.one (.int .i64)] λ(s9:Sl)(_:Sl)(_:Int) w14=>
R (s9.v) w14
theorem Ct.cZ(h:Sh.cZ e0 d x n (Rt X [.one .slice] K w) w.here):Ct Pg F.cZ [.pointer e0,d.v,x.v,.int .i64 n] w X [.one .slice] K:=
 cod (Sh.cZ e0 d x n) 74 [] [] [(2,0,[]),(3,4,[(2,.one .slice),(10,.one .slice),(28,.one (.int .i64))]),(2,1,[(2,.one .slice),(10,.one .slice)])] f229 h
def Sh.jc(t:HL I11)(R:Value→TW→Prop)(w:TW):Prop:=
nwv w λw1=>
cl Pg F.jG [.agg (aX I11 t).toArray] w1 [.one .ptr] λ(p:Option Addr) w2=>
nwb w2 [.pointer p] T.uf λb w3=>
R (.pointer (some ⟨b,0,none⟩)) w3
theorem Ct.jc{t:HL I11}{K:KT [.one .ptr]}(h:Sh.jc t (Rt X [.one .ptr] K w) w.here):Ct Pg F.jc [.agg (aX I11 t).toArray] w X [.one .ptr] K:=
 cod (Sh.jc t) 7 [(1,7)] [(7,11)] [] f272 h
end
section
set_option maxRecDepth 100000
open Go.Proofs.Tryz
def Sh.jC(t:HL I11)(R:Value→TW→Prop)(w:TW):Prop:=
nwv w λw1=>
cl Pg F.j9 [.agg (aX I11 t).toArray] w1 [.one .ptr] λ(p:Option Addr) w2=>
nwb w2 [.pointer p] T.uD λb w3=>
R (.pointer (some ⟨b,0,none⟩)) w3
theorem Ct.jC{t:HL I11}{w:TW}{X:Nat→Prop}{K:KT [.one .ptr]}(h:Sh.jC t (Rt X [.one .ptr] K w) w.here):Ct Pg F.jC [.agg (aX I11 t).toArray] w X [.one .ptr] K:=
 cod (Sh.jC t) 7 [(1,7)] [(7,11)] [] f260 h
end
section
set_option maxRecDepth 100000
open Go.Proofs.Tryz
variable {w:TW} {X:Nat→Prop}
def Sh.cO(e0:Option Addr)(a:Sl)(b:Sl)(R:Value→TW→Prop)(w:TW):Prop:=
nck e0 λa1=>
ldc (.ptr) w a1 λ(v:Option Addr)=>
nck v λa2=>
bnd (wi ((a.n:Int)*(b.n:Int))) λn=>
cl Pg F.ba [.pointer (some a2),.int .i64 n] w [.one (.int .i64)] λ(_:Int) w1=>
bnd (wi ((a.n:Int)+(b.n:Int))) λn1=>
mks w1 n1 n1 T.ar 8 [.int .u64 0] λs w2=>
Jn [] (λJ0=>
Lp [.int .i64] (λ(x:Int) w3 C0=>
cond (decide ((x:Int)<(a.n:Int))) (
ixa a x 1 λa3=>
ldc (.int .u64) w3 a3 λ(v1:Int)=>
Jn [.int .u64] (λJ1=>
Lp [.int .u64,.int .i64] (λ(c:Int)(x1:Int) w4 C1=>
cond (decide ((x1:Int)<(b.n:Int))) (
ixa b x1 1 λa4=>
ldc (.int .u64) w4 a4 λ(v2:Int)=>
cl Pg F.aR [.int .u64 v1,.int .u64 v2] w4 [.one (.int .u64),.one (.int .u64)] λ(r1:Int)(r2:Int) w5=>
fS r2 c 0 λs1 c1=>
bnd (wu (r1+c1)) λn2=>
bnd (wi (x+x1)) λn3=>
bnd (wi (x+x1)) λn4=>
ixa s n4 1 λa5=>
ldc (.int .u64) w5 a5 λ(v3:Int)=>
fS v3 s1 0 λs2 c2=>
ixa s n3 1 λa6=>
stc w5 a6 (.int .u64 s2) λw6=>
bnd (wu (n2+c2)) λn5=>
bnd (wi (x1+1)) λn6=>
C1 n5 n6 w6) (
J1 c w4)) 0 0 w3) λ(c3:Int) w7=>
bnd (wi (x+(b.n:Int))) λn7=>
ixa s n7 1 λa7=>
stc w7 a7 (.int .u64 c3) λw8=>
bnd (wi (x+1)) λn8=>
C0 n8 w8) (
J0 w3)) 0 w2) fun  w9=>
cl Pg F.bk [s.v] w9 [.one .slice] λ(s3:Sl) w10=>
R (s3.v) w10
theorem Ct.cO{e0:Option Addr}{a:Sl}{b:Sl}{K:KT [.one .slice]}(h:Sh.cO e0 a b (Rt X [.one .slice] K w) w.here):Ct Pg F.cO [.pointer e0,a.v,b.v] w X [.one .slice] K:=
 cod (Sh.cO e0 a b) 94 [] [] [(2,0,[]),(3,4,[(37,.one (.int .i64))]),(2,2,[(10,.one (.int .u64))]),(3,8,[(10,.one (.int .u64)),(44,.one (.int .i64))])] f155 h
def Sh.gY(t:HL I11)(R:Value→TW→Prop)(w:TW):Prop:=
nwv w λw1=>
cl Pg F.iR [.agg (aX I11 t).toArray] w1 [.one .ptr] λ(p:Option Addr) w2=>
nwb w2 [.pointer p] T.nO λb w3=>
R (.pointer (some ⟨b,0,none⟩)) w3
theorem Ct.gY{t:HL I11}{K:KT [.one .ptr]}(h:Sh.gY t (Rt X [.one .ptr] K w) w.here):Ct Pg F.gY [.agg (aX I11 t).toArray] w X [.one .ptr] K:=
 cod (Sh.gY t) 7 [(1,7)] [(7,11)] [] f282 h
end
section
set_option maxRecDepth 100000
open Go.Proofs.Tryz
variable {t:HL I11} {m n:Int} {w:TW} {X:Nat→Prop} {K:KT [.one (.int .i64)]}
def Sh.dV(t:Option Addr)(n:Int)(m:Int)(R:Value→TW→Prop)(w:TW):Prop:=
nck t λa=>
ldc (.int .i64) w ((a.add 3).add 0) λ(v:Int)=>
ldc (.int .i64) w ((a.add 3).add 1) λ(v1:Int)=>
ldc (.int .i64) w ((a.add 3).add 2) λ(v2:Int)=>
ldc (.int .i64) w ((a.add 3).add 3) λ(v3:Int)=>
ldc (.int .i64) w ((a.add 3).add 4) λ(v4:Int)=>
ldc (.int .i64) w ((a.add 3).add 5) λ(v5:Int)=>
ldc (.int .i64) w ((a.add 3).add 6) λ(v6:Int)=>
ldc (.int .i64) w ((a.add 3).add 7) λ(v7:Int)=>
ldc (.int .i64) w ((a.add 3).add 8) λ(v8:Int)=>
ldc (.int .i64) w ((a.add 3).add 9) λ(v9:Int)=>
ldc (.int .i64) w ((a.add 3).add 10) λ(v10:Int)=>
cl Pg F.gf [.agg #[.int .i64 v,.int .i64 v1,.int .i64 v2,.int .i64 v3,.int .i64 v4,.int .i64 v5,.int .i64 v6,.int .i64 v7,.int .i64 v8,.int .i64 v9,.int .i64 v10],.int .i64 n,.int .i64 m] w [.one (.int .i64)] λ(r:Int) w1=>
R (.int .i64 r) w1
theorem Ct.dV{t:Option Addr}(h:Sh.dV t n m (Rt X [.one (.int .i64)] K w) w.here):Ct Pg F.dV [.pointer t,.int .i64 n,.int .i64 m] w X [.one (.int .i64)] K:=
 cod (Sh.dV t n m) 14 [] [] [] f154 h
def Sh.gf(t:HL I11)(n:Int)(m:Int)(R:Value→TW→Prop)(w:TW):Prop:=
nwv w λw1=>
Jn [.bool,.int .i64,.int .i64,.int .i64,.int .i64,.int .i64,.int .i64,.int .i64,.int .i64,.int .i64,.int .i64,.int .i64] (λJ0=>
cl Pg F.im [.int .i64 n] w1 [.one .bool] λ(ok:Bool) w2=>
cond (!ok) (
J0 true t.1 t.2.1 t.2.2.1 t.2.2.2.1 t.2.2.2.2.1 t.2.2.2.2.2.1 t.2.2.2.2.2.2.1 t.2.2.2.2.2.2.2.1 t.2.2.2.2.2.2.2.2.1 t.2.2.2.2.2.2.2.2.2.1 t.2.2.2.2.2.2.2.2.2.2.1 w2) (
cl Pg F.im [.int .i64 m] w2 [.one .bool] λ(ok1:Bool) w3=>
J0 (!ok1) t.1 t.2.1 t.2.2.1 t.2.2.2.1 t.2.2.2.2.1 t.2.2.2.2.2.1 t.2.2.2.2.2.2.1 t.2.2.2.2.2.2.2.1 t.2.2.2.2.2.2.2.2.1 t.2.2.2.2.2.2.2.2.2.1 t.2.2.2.2.2.2.2.2.2.2.1 w3)) λ(x:Bool)(t1:Int)(t2:Int)(t3:Int)(t4:Int)(t5:Int)(t6:Int)(t7:Int)(t8:Int)(t9:Int)(t10:Int)(t11:Int) w4=>
cond x (
R (.int .i64 0) w4) (
cl Pg F.fC [.agg #[.int .i64 t1,.int .i64 t2,.int .i64 t3,.int .i64 t4,.int .i64 t5,.int .i64 t6,.int .i64 t7,.int .i64 t8,.int .i64 t9,.int .i64 t10,.int .i64 t11]] w4 [.agg I11] λ(r:Int)(r1:Int)(r2:Int)(r3:Int)(r4:Int)(r5:Int)(r6:Int)(r7:Int)(r8:Int)(r9:Int)(r10:Int) w5=>
bnd (if (m:Int)>n then m else n) λn1=>
bnd (if (m:Int)<n then m else n) λn2=>
cl Pg F.ge [.agg #[.int .i64 r,.int .i64 r1,.int .i64 r2,.int .i64 r3,.int .i64 r4,.int .i64 r5,.int .i64 r6,.int .i64 r7,.int .i64 r8,.int .i64 r9,.int .i64 r10],.int .i64 n1,.int .i64 n2] w5 [.one (.int .i64)] λ(r11:Int) w6=>
R (.int .i64 r11) w6)
theorem Ct.gf(h:Sh.gf t n m (Rt X [.one (.int .i64)] K w) w.here):Ct Pg F.gf [.agg (aX I11 t).toArray,.int .i64 n,.int .i64 m] w X [.one (.int .i64)] K:=
 cod (Sh.gf t n m) 24 [(3,24)] [(24,11)] [(0,1,[(14,.one .bool),(24,.one (.int .i64)),(25,.one (.int .i64)),(26,.one (.int .i64)),(27,.one (.int .i64)),(28,.one (.int .i64)),(29,.one (.int .i64)),(30,.one (.int .i64)),(31,.one (.int .i64)),(32,.one (.int .i64)),(33,.one (.int .i64)),(34,.one (.int .i64))])] f190 h
def Sh.im(n:Int)(R:Value→TW→Prop)(w:TW):Prop:=
Jn [.bool] (λJ0=>
cond (decide ((n:Int)≥0)) (
J0 (decide ((n:Int)≤16384)) w) (
J0 false w)) λ(x:Bool) w1=>
R (.bool x) w1
theorem Ct.im{K:KT [.one .bool]}(h:Sh.im n (Rt X [.one .bool] K w) w.here):Ct Pg F.im [.int .i64 n] w X [.one .bool] K:=
 cod (Sh.im n) 9 [] [] [(0,1,[(2,.one .bool)])] f223 h
def Sh.ge(t:HL I11)(n:Int)(m:Int)(R:Value→TW→Prop)(w:TW):Prop:=
nwv w λw1=>
bnd (wi (n+2)) λn1=>
eH .i64 n1 3 λn2=>
cond ((m:Int) == 0) (
R (.int .i64 0) w1) (
cond (decide ((m:Int)<t.1)) (
R (.int .i64 1) w1) (
bnd (wi (2*m)) λn3=>
bnd (wi (n+1)) λn4=>
cond (decide ((n3:Int)≤n4)) (
R (.int .i64 2) w1) (
cond (decide ((m:Int)<t.2.1)) (
R (.int .i64 3) w1) (
bnd (wi (n+m)) λn5=>
cond (decide ((n5:Int)≥t.2.2.1)) (
R (.int .i64 5) w1) (
bnd (wi (2*n2)) λn6=>
cond (decide ((m:Int)>n6)) (
R (.int .i64 4) w1) (
R (.int .i64 3) w1))))))
theorem Ct.ge(h:Sh.ge t n m (Rt X [.one (.int .i64)] K w) w.here):Ct Pg F.ge [.agg (aX I11 t).toArray,.int .i64 n,.int .i64 m] w X [.one (.int .i64)] K:=
 cod (Sh.ge t n m) 42 [(3,42)] [(42,11)] [] f224 h
def Sh.fC(t:HL I11)(R:Value→TW→Prop)(w:TW):Prop:=
nwv w λw1=>
nwv w1 λw2=>
cl Pg F.bx [.int .i64 t.1,.int .i64 4,.int .i64 64] w2.drew [.one (.int .i64)] λ(r:Int) w3=>
cl Pg F.bx [.int .i64 t.2.1,.int .i64 12,.int .i64 8192] w3 [.one (.int .i64)] λ(r1:Int) w4=>
cl Pg F.bx [.int .i64 t.2.2.1,.int .i64 64,.int .i64 16384] w4 [.one (.int .i64)] λ(r2:Int) w5=>
cl Pg F.bx [.int .i64 t.2.2.2.1,.int .i64 4,.int .i64 1024] w5 [.one (.int .i64)] λ(r3:Int) w6=>
cl Pg F.bx [.int .i64 t.2.2.2.2.1,.int .i64 4,.int .i64 4096] w6 [.one (.int .i64)] λ(r4:Int) w7=>
cl Pg F.bx [.int .i64 t.2.2.2.2.2.1,.int .i64 2,.int .i64 1024] w7 [.one (.int .i64)] λ(r5:Int) w8=>
cl Pg F.bx [.int .i64 t.2.2.2.2.2.2.1,.int .i64 2,.int .i64 1024] w8 [.one (.int .i64)] λ(r6:Int) w9=>
cl Pg F.bx [.int .i64 t.2.2.2.2.2.2.2.1,.int .i64 4,.int .i64 256] w9 [.one (.int .i64)] λ(r7:Int) w10=>
cl Pg F.bx [.int .i64 t.2.2.2.2.2.2.2.2.1,.int .i64 4,.int .i64 1024] w10 [.one (.int .i64)] λ(r8:Int) w11=>
cl Pg F.bx [.int .i64 t.2.2.2.2.2.2.2.2.2.1,.int .i64 2,.int .i64 1024] w11 [.one (.int .i64)] λ(r9:Int) w12=>
cl Pg F.bx [.int .i64 t.2.2.2.2.2.2.2.2.2.2.1,.int .i64 2,.int .i64 256] w12 [.one (.int .i64)] λ(r10:Int) w13=>
nwv w13 λw14=>
R (.agg #[.int .i64 r,.int .i64 r1,.int .i64 r2,.int .i64 r3,.int .i64 r4,.int .i64 r5,.int .i64 r6,.int .i64 r7,.int .i64 r8,.int .i64 r9,.int .i64 r10]) w14
theorem Ct.fC{K:KT [.agg I11]}(h:Sh.fC t (Rt X [.agg I11] K w) w.here):Ct Pg F.fC [.agg (aX I11 t).toArray] w X [.agg I11] K:=
 cod (Sh.fC t) 37 [(1,37),(2,48)] [(37,11),(48,11)] [] f225 h
def Sh.bx(n:Int)(least:Int)(most:Int)(R:Value→TW→Prop)(w:TW):Prop:=
bnd (if (most:Int)<n then most else n) λn1=>
bnd (if (n1:Int)>least then n1 else least) λn2=>
R (.int .i64 n2) w
theorem Ct.bx{least:Int}{most:Int}(h:Sh.bx n least most (Rt X [.one (.int .i64)] K w) w.here):Ct Pg F.bx [.int .i64 n,.int .i64 least,.int .i64 most] w X [.one (.int .i64)] K:=
 cod (Sh.bx n least most) 12 [] [] [] f250 h
def Sh.iR(t:HL I11)(R:Value→TW→Prop)(w:TW):Prop:=
nwv w λw1=>
cl Pg F.fC [.agg (aX I11 t).toArray] w1 [.agg I11] λ(r:Int)(r1:Int)(r2:Int)(r3:Int)(r4:Int)(r5:Int)(r6:Int)(r7:Int)(r8:Int)(r9:Int)(r10:Int) w2=>
nwb w2 [.int .i64 0,.int .i64 0,.int .i64 0,.int .i64 r,.int .i64 r1,.int .i64 r2,.int .i64 r3,.int .i64 r4,.int .i64 r5,.int .i64 r6,.int .i64 r7,.int .i64 r8,.int .i64 r9,.int .i64 r10] T.ey λb w3=>
R (.pointer (some ⟨b,0,none⟩)) w3
theorem Ct.iR{K:KT [.one .ptr]}(h:Sh.iR t (Rt X [.one .ptr] K w) w.here):Ct Pg F.iR [.agg (aX I11 t).toArray] w X [.one .ptr] K:=
 cod (Sh.iR t) 7 [(1,7)] [(7,11)] [] f283 h
end
section
set_option maxRecDepth 100000
open Go.Proofs.Tryz
variable {a b:Sl} {w:TW} {X:Nat→Prop} {K:KT [.one .slice]} {k:Int}
def Sh.dU(e0:Option Addr)(a:Sl)(b:Sl)(inner:Value)(R:Value→TW→Prop)(w:TW):Prop:=
Jn [.slice,.slice] (λJ0=>
cond (decide (((a.n:Int):Int)<(b.n:Int))) (
J0 b a w) (
J0 a b w)) λ(a1:Sl)(b1:Sl) w1=>
bnd (wi ((a1.n:Int)+2)) λn=>
eH .i64 n 3 λn1=>
bnd (wi (2*n1)) λn2=>
cond (decide (((b1.n:Int):Int)≤n2)) (
R (.tuple #[.slice none 0 0,.bool false]) w1) (
nck e0 λa2=>
ldc (.ptr) w1 a2 λ(v:Option Addr)=>
nck v λa3=>
ldc (.ptr) w1 a3 λ(v1:Option Addr)=>
nck v1 λa4=>
ldc (.ptr) w1 a4 λ(v2:Option Addr)=>
nck v2 λa5=>
cl Pg F.bI [.pointer (some a5)] w1 [.one (.int .i64)] λ(_:Int) w2=>
cl Pg F.fB [a1.v,.int .i64 n1] w2 [.agg [.slice,.bool],.agg [.slice,.bool],.agg [.slice,.bool],.agg [.slice,.bool],.agg [.slice,.bool]] λ(r1:Sl)(_:Bool)(r3:Sl)(_:Bool)(r5:Sl)(r6:Bool)(r7:Sl)(_:Bool)(r9:Sl)(_:Bool) w3=>
nwv w3 λw4=>
nwv w4 λw5=>
nwv w5 λw6=>
nwv w6 λw7=>
nwv w7 λw8=>
nwv w8 λw9=>
nwv w9 λw10=>
nwv w10 λw11=>
nwv w11 λw12=>
nwv w12 λw13=>
cl Pg F.fB [b1.v,.int .i64 n1] w13 [.agg [.slice,.bool],.agg [.slice,.bool],.agg [.slice,.bool],.agg [.slice,.bool],.agg [.slice,.bool]] λ(r11:Sl)(_:Bool)(r13:Sl)(_:Bool)(r15:Sl)(r16:Bool)(r17:Sl)(_:Bool)(r19:Sl)(_:Bool) w14=>
nwv w14 λw15=>
nwv w15 λw16=>
nwv w16 λw17=>
nwv w17 λw18=>
nwv w18 λw19=>
nwv w19 λw20=>
nwv w20 λw21=>
nwv w21 λw22=>
nwv w22 λw23=>
nwv w23 λw24=>
cl Pg F.cJ [r1.v,.int .i64 n1] w24.drew [.one .slice] λ(s:Sl) w25=>
cl Pg F.cJ [r11.v,.int .i64 n1] w25 [.one .slice] λ(s1:Sl) w26=>
clv Pg inner [s.v,s1.v] w26 [.one .slice] λ(s2:Sl) w27=>
bnd (wi (n1+1)) λn3=>
bnd (wi (n1+1)) λn4=>
cl Pg F.cJ [r3.v,.int .i64 n3] w27.drew [.one .slice] λ(s3:Sl) w28=>
cl Pg F.cJ [r13.v,.int .i64 n4] w28 [.one .slice] λ(s4:Sl) w29=>
clv Pg inner [s3.v,s4.v] w29 [.one .slice] λ(s5:Sl) w30=>
bnd (wi (n1+1)) λn5=>
bnd (wi (n1+1)) λn6=>
cl Pg F.cJ [r5.v,.int .i64 n5] w30.drew [.one .slice] λ(s6:Sl) w31=>
cl Pg F.cJ [r15.v,.int .i64 n6] w31 [.one .slice] λ(s7:Sl) w32=>
clv Pg inner [s6.v,s7.v] w32 [.one .slice] λ(s8:Sl) w33=>
bnd (wi (n1+1)) λn7=>
bnd (wi (n1+1)) λn8=>
cl Pg F.cJ [r7.v,.int .i64 n7] w33.drew [.one .slice] λ(s9:Sl) w34=>
cl Pg F.cJ [r17.v,.int .i64 n8] w34 [.one .slice] λ(s10:Sl) w35=>
clv Pg inner [s9.v,s10.v] w35 [.one .slice] λ(s11:Sl) w36=>
bnd (wi (2*n1)) λn9=>
bnd (wi ((a1.n:Int)-n9)) λn10=>
bnd (wi (2*n1)) λn11=>
bnd (wi ((b1.n:Int)-n11)) λn12=>
cl Pg F.cJ [r9.v,.int .i64 n10] w36.drew [.one .slice] λ(s12:Sl) w37=>
cl Pg F.cJ [r19.v,.int .i64 n12] w37 [.one .slice] λ(s13:Sl) w38=>
clv Pg inner [s12.v,s13.v] w38 [.one .slice] λ(s14:Sl) w39=>
nck e0 λa6=>
ldc (.ptr) w39 a6 λ(v3:Option Addr)=>
nck v3 λa7=>
ldc (.ptr) w39 a7 λ(v4:Option Addr)=>
nck v4 λa8=>
ldc (.ptr) w39 a8 λ(v5:Option Addr)=>
nck v5 λa9=>
cl Pg F.bH [.pointer (some a9)] w39 [.one (.int .i64)] λ(_:Int) w40=>
cl Pg F.gc [.int .i64 n1,s2.v,s5.v,s8.v,s11.v,s14.v,.bool (!(r6 == r16))] w40 [.one .slice] λ(s15:Sl) w41=>
R (.tuple #[s15.v,.bool true]) w41)
theorem Ct.dU{e0:Option Addr}{inner:Value}{K:KT [.one .slice,.one .bool]}(h:Sh.dU e0 a b inner (Rt X [.one .slice,.one .bool] K w) w.here):Ct Pg F.dU [.pointer e0,a.v,b.v,inner] w X [.one .slice,.one .bool] K:=
 cod (Sh.dU e0 a b inner) 164 [(13,164),(14,166),(15,168),(16,170),(17,172),(18,174),(19,176),(20,178),(21,180),(22,182)] [(164,2),(166,2),(168,2),(170,2),(172,2),(174,2),(176,2),(178,2),(180,2),(182,2)] [(1,2,[(1,.one .slice),(2,.one .slice)])] f188 h
def Sh.fB(a:Sl)(k:Int)(R:Value→TW→Prop)(w:TW):Prop:=
nwv w λw1=>
nwv w1 λw2=>
nwv w2 λw3=>
nwv w3 λw4=>
nwv w4 λw5=>
bnd (if (16384:Int)<k then 16384 else k) λn=>
bnd (if (n:Int)>1 then n else 1) λn1=>
cl Pg F.bk [a.v] w5 [.one .slice] λ(s:Sl) w6=>
cl Pg F.go [s.v,.int .i64 0,.int .i64 n1] w6 [.one .slice] λ(s1:Sl) w7=>
bnd (wi (2*n1)) λn2=>
cl Pg F.go [s.v,.int .i64 n1,.int .i64 n2] w7 [.one .slice] λ(s2:Sl) w8=>
bnd (wi (2*n1)) λn3=>
cl Pg F.go [s.v,.int .i64 n3,.int .i64 (s.n:Int)] w8 [.one .slice] λ(s3:Sl) w9=>
cl Pg F.cT [s1.v,s3.v] w9 [.one .slice] λ(s4:Sl) w10=>
cl Pg F.bk [s1.v] w10 [.one .slice] λ(s5:Sl) w11=>
nwv w11 λw12=>
cl Pg F.cT [s4.v,s2.v] w12 [.one .slice] λ(s6:Sl) w13=>
nwv w13 λw14=>
cl Pg F.iQ [s4.v,s2.v] w14 [.agg [.slice,.bool]] λ(r:Sl)(r1:Bool) w15=>
nwv w15 λw16=>
cl Pg F.dY [s2.v,.int .i64 1] w16 [.one .slice] λ(s7:Sl) w17=>
cl Pg F.dY [s3.v,.int .i64 2] w17 [.one .slice] λ(s8:Sl) w18=>
nwb w18 [s1.v,s7.v,s8.v] T.cL λb w19=>
cl Pg F.iZ [.slice (some ⟨b,0,none⟩) 3 3] w19 [.one .slice] λ(s9:Sl) w20=>
nwv w20 λw21=>
cl Pg F.bk [s3.v] w21 [.one .slice] λ(s10:Sl) w22=>
nwv w22 λw23=>
nwv w23.drew λw24=>
nwv w24 λw25=>
nwv w25 λw26=>
nwv w26 λw27=>
nwv w27 λw28=>
R (.tuple #[.agg #[s5.v,.bool false],.agg #[s6.v,.bool false],.agg #[r.v,.bool r1],.agg #[s9.v,.bool false],.agg #[s10.v,.bool false]]) w28
theorem Ct.fB{K:KT [.agg [.slice,.bool],.agg [.slice,.bool],.agg [.slice,.bool],.agg [.slice,.bool],.agg [.slice,.bool]]}(h:Sh.fB a k (Rt X [.agg [.slice,.bool],.agg [.slice,.bool],.agg [.slice,.bool],.agg [.slice,.bool],.agg [.slice,.bool]] K w) w.here):Ct Pg F.fB [a.v,.int .i64 k] w X [.agg [.slice,.bool],.agg [.slice,.bool],.agg [.slice,.bool],.agg [.slice,.bool],.agg [.slice,.bool]] K:=
 cod (Sh.fB a k) 61 [(4,61),(5,63),(6,65),(7,67),(8,69)] [(61,2),(63,2),(65,2),(67,2),(69,2)] [] f219 h
def Sh.cJ(a:Sl)(n:Int)(R:Value→TW→Prop)(w:TW):Prop:=
mks w n n T.ar 8 [.int .u64 0] λs w1=>
cl Pg F.aS [a.v] w1 [.one (.int .i64)] λ(r:Int) w2=>
slc a 0 r 1 λs1=>
cpy w2 T.ar s s1 λ_ w3=>
R (s.v) w3
theorem Ct.cJ{n:Int}(h:Sh.cJ a n (Rt X [.one .slice] K w) w.here):Ct Pg F.cJ [a.v,.int .i64 n] w X [.one .slice] K:=
 cod (Sh.cJ a n) 15 [] [] [] f220 h
def Sh.gc(k:Int)(r0:Sl)(r1:Sl)(rm:Sl)(r2:Sl)(inf:Sl)(neg:Bool)(R:Value→TW→Prop)(w:TW):Prop:=
cl Pg F.cT [r1.v,rm.v] w [.one .slice] λ(s:Sl) w1=>
cl Pg F.iP [r1.v,rm.v] w1 [.one .slice] λ(s1:Sl) w2=>
Jn [.slice,.slice] (λJ0=>
cond neg (
J0 s1 s w2) (
J0 s s1 w2)) λ(even:Sl)(odd:Sl) w3=>
cl Pg F.cS [even.v,.int .i64 1] w3 [.one .slice] λ(s2:Sl) w4=>
cl Pg F.cS [odd.v,.int .i64 1] w4 [.one .slice] λ(s3:Sl) w5=>
nwb w5 [r0.v,inf.v] T.cL λb w6=>
cl Pg F.gD [s2.v,.slice (some ⟨b,0,none⟩) 2 2] w6 [.one .slice] λ(s4:Sl) w7=>
cl Pg F.dY [s4.v,.int .i64 2] w7 [.one .slice] λ(s5:Sl) w8=>
cl Pg F.dY [inf.v,.int .i64 4] w8 [.one .slice] λ(s6:Sl) w9=>
nwb w9 [r0.v,s5.v,s6.v] T.cL λb1 w10=>
cl Pg F.gD [r2.v,.slice (some ⟨b1,0,none⟩) 3 3] w10 [.one .slice] λ(s7:Sl) w11=>
cl Pg F.cS [s7.v,.int .i64 1] w11 [.one .slice] λ(s8:Sl) w12=>
nwb w12 [s3.v] T.cL λb2 w13=>
cl Pg F.gD [s8.v,.slice (some ⟨b2,0,none⟩) 1 1] w13 [.one .slice] λ(s9:Sl) w14=>
cl Pg F.gX [s9.v] w14 [.one .slice,.one .bool] λ(s10:Sl)(_:Bool) w15=>
nwb w15 [s10.v] T.cL λb3 w16=>
cl Pg F.gD [s3.v,.slice (some ⟨b3,0,none⟩) 1 1] w16 [.one .slice] λ(s11:Sl) w17=>
nwb w17 [r0.v,s11.v,s4.v,s10.v,inf.v] T.cL λb4 w18=>
cl Pg F.cK [.int .i64 k,.slice (some ⟨b4,0,none⟩) 5 5] w18 [.one .slice] λ(s12:Sl) w19=>
R (s12.v) w19
theorem Ct.gc{r0:Sl}{r1:Sl}{rm:Sl}{r2:Sl}{inf:Sl}{neg:Bool}(h:Sh.gc k r0 r1 rm r2 inf neg (Rt X [.one .slice] K w) w.here):Ct Pg F.gc [.int .i64 k,r0.v,r1.v,rm.v,r2.v,inf.v,.bool neg] w X [.one .slice] K:=
 cod (Sh.gc k r0 r1 rm r2 inf neg) 69 [] [] [(1,3,[(15,.one .slice),(16,.one .slice)])] f221 h
def Sh.go(a:Sl)(from0:Int)(to:Int)(R:Value→TW→Prop)(w:TW):Prop:=
cond (decide ((from0:Int)≥(a.n:Int))) (
R (.slice none 0 0) w) (
bnd (if ((a.n:Int):Int)<to then (a.n:Int) else to) λn=>
slc a from0 n 1 λs=>
R (s.v) w)
theorem Ct.go{from0:Int}{to:Int}(h:Sh.go a from0 to (Rt X [.one .slice] K w) w.here):Ct Pg F.go [a.v,.int .i64 from0,.int .i64 to] w X [.one .slice] K:=
 cod (Sh.go a from0 to) 18 [] [] [] f244 h
def Sh.iQ(a:Sl)(b:Sl)(R:Value→TW→Prop)(w:TW):Prop:=
nwv w λw1=>
cl Pg F.bB [a.v,b.v] w1 [.one .slice,.one .bool] λ(s:Sl)(ok:Bool) w2=>
cond ok (
nwv w2 λw3=>
R (.agg #[s.v,.bool false]) w3) (
cl Pg F.bB [b.v,a.v] w2 [.one .slice,.one .bool] λ(s1:Sl)(_:Bool) w4=>
nwv w4 λw5=>
R (.agg #[s1.v,.bool true]) w5)
theorem Ct.iQ{K:KT [.agg [.slice,.bool]]}(h:Sh.iQ a b (Rt X [.agg [.slice,.bool]] K w) w.here):Ct Pg F.iQ [a.v,b.v] w X [.agg [.slice,.bool]] K:=
 cod (Sh.iQ a b) 26 [(4,26)] [(26,2)] [] f245 h
def Sh.iP(a:Sl)(b:Sl)(R:Value→TW→Prop)(w:TW):Prop:=
cl Pg F.bB [a.v,b.v] w [.one .slice,.one .bool] λ(s:Sl)(_:Bool) w1=>
R (s.v) w1
theorem Ct.iP(h:Sh.iP a b (Rt X [.one .slice] K w) w.here):Ct Pg F.iP [a.v,b.v] w X [.one .slice] K:=
 cod (Sh.iP a b) 14 [] [] [] f247 h
def Sh.gD(a:Sl)(l:Sl)(R:Value→TW→Prop)(w:TW):Prop:=
cl Pg F.iZ [l.v] w [.one .slice] λ(s:Sl) w1=>
cl Pg F.bB [a.v,s.v] w1 [.one .slice,.one .bool] λ(s1:Sl)(_:Bool) w2=>
R (s1.v) w2
theorem Ct.gD{l:Sl}(h:Sh.gD a l (Rt X [.one .slice] K w) w.here):Ct Pg F.gD [a.v,l.v] w X [.one .slice] K:=
 cod (Sh.gD a l) 15 [] [] [] f248 h
def Sh.gX(a:Sl)(R:Value→TW→Prop)(w:TW):Prop:=
cl Pg F.bk [a.v] w [.one .slice] λ(s:Sl) w1=>
Jn [.int .u64] (λJ0=>
Lp [.int .u64,.int .i64] (λ(c:Int)(x:Int) w2 C0=>
cond (decide ((x:Int)<(s.n:Int))) (
ixa s x 1 λa1=>
ldc (.int .u64) w2 a1 λ(v:Int)=>
jT v c 0 λs1 c1=>
bnd (wu (s1*12297829382473034411)) λn=>
ixa s x 1 λa2=>
stc w2 a2 (.int .u64 n) λw3=>
cl Pg F.aR [.int .u64 n,.int .u64 3] w3 [.one (.int .u64),.one (.int .u64)] λ(r:Int)(_:Int) w4=>
bnd (wu (r+c1)) λn1=>
bnd (wi (x+1)) λn2=>
C0 n1 n2 w4) (
J0 c w2)) 0 0 w1) λ(c2:Int) w5=>
cond ((c2:Int) != 0) (
R (.tuple #[.slice none 0 0,.bool false]) w5) (
cl Pg F.bk [s.v] w5 [.one .slice] λ(s2:Sl) w6=>
R (.tuple #[s2.v,.bool true]) w6)
theorem Ct.gX{K:KT [.one .slice,.one .bool]}(h:Sh.gX a (Rt X [.one .slice,.one .bool] K w) w.here):Ct Pg F.gX [a.v] w X [.one .slice,.one .bool] K:=
 cod (Sh.gX a) 46 [] [] [(2,0,[(4,.one (.int .u64))]),(3,4,[(4,.one (.int .u64)),(16,.one (.int .i64))])] f249 h
def Sh.iX(t:HL I11)(R:Value→TW→Prop)(w:TW):Prop:=
nwv w λw1=>
cl Pg F.jj [.agg (aX I11 t).toArray] w1 [.one .ptr] λ(p:Option Addr) w2=>
nwb w2 [.pointer p] T.px λb w3=>
R (.pointer (some ⟨b,0,none⟩)) w3
theorem Ct.iX{t:HL I11}{K:KT [.one .ptr]}(h:Sh.iX t (Rt X [.one .ptr] K w) w.here):Ct Pg F.iX [.agg (aX I11 t).toArray] w X [.one .ptr] K:=
 cod (Sh.iX t) 7 [(1,7)] [(7,11)] [] f280 h
end
section
set_option maxRecDepth 100000
open Go.Proofs.Tryz
variable {a0 a1 d0 d1:Int} {w:TW} {X:Nat→Prop} {K:KT [.one (.int .u64),.one .bool]}
def Sh.ft(d1:Int)(d0:Int)(R:Value→TW→Prop)(w:TW):Prop:=
cl Pg F.fH [.int .u64 d1] w [.one (.int .u64),.one .bool] λ(r:Int)(ok:Bool) w1=>
cond (!ok) (
R (.tuple #[.int .u64 0,.bool false]) w1) (
bnd (wu (d1*r)) λn=>
bnd (wu (n+d0)) λn1=>
Jn [.int .u64,.int .u64] (λJ0=>
cond (decide ((n1:Int)<d0)) (
bnd (wu (r-1)) λn2=>
Jn [.int .u64,.int .u64] (λJ1=>
cond (decide ((n1:Int)≥d1)) (
bnd (wu (n2-1)) λn3=>
bnd (wu (n1-d1)) λn4=>
J1 n3 n4 w1) (
J1 n2 n1 w1)) λ(v:Int)(p:Int) w2=>
bnd (wu (p-d1)) λn5=>
J0 v n5 w2) (
J0 r n1 w1)) λ(v1:Int)(p1:Int) w3=>
cl Pg F.aR [.int .u64 v1,.int .u64 d0] w3 [.one (.int .u64),.one (.int .u64)] λ(r1:Int)(r2:Int) w4=>
bnd (wu (p1+r1)) λn6=>
Jn [.int .u64] (λJ2=>
cond (decide ((n6:Int)<r1)) (
bnd (wu (v1-1)) λn7=>
Jn [.bool] (λJ3=>
cond (decide ((n6:Int)>d1)) (
J3 true w4) (
cond ((n6:Int) == d1) (
J3 (decide ((r2:Int)≥d0)) w4) (
J3 false w4))) λ(x:Bool) w5=>
Jn [.int .u64] (λJ4=>
cond x (
bnd (wu (n7-1)) λn8=>
J4 n8 w5) (
J4 n7 w5)) λ(v2:Int) w6=>
J2 v2 w6) (
J2 v1 w4)) λ(v3:Int) w7=>
R (.tuple #[.int .u64 v3,.bool true]) w7)
theorem Ct.ft(h:Sh.ft d1 d0 (Rt X [.one (.int .u64),.one .bool] K w) w.here):Ct Pg F.ft [.int .u64 d1,.int .u64 d0] w X [.one (.int .u64),.one .bool] K:=
 cod (Sh.ft d1 d0) 69 [] [] [(1,6,[(6,.one (.int .u64)),(8,.one (.int .u64))]),(1,8,[(6,.one (.int .u64)),(8,.one (.int .u64))]),(1,14,[(6,.one (.int .u64))]),(0,15,[(65,.one .bool)]),(1,16,[(6,.one (.int .u64))])] f159 h
def Sh.fH(d:Int)(R:Value→TW→Prop)(w:TW):Prop:=
cond (decide ((d:Int)<9223372036854775808)) (
R (.tuple #[.int .u64 0,.bool false]) w) (
bnd (bu .xor .u64 IntKind.u64.max d) λn=>
cl Pg F.eG [.int .u64 n,.int .u64 18446744073709551615,.int .u64 d] w [.one (.int .u64),.one (.int .u64)] λ(r:Int)(_:Int) w1=>
R (.tuple #[.int .u64 r,.bool true]) w1)
theorem Ct.fH{d:Int}(h:Sh.fH d (Rt X [.one (.int .u64),.one .bool] K w) w.here):Ct Pg F.fH [.int .u64 d] w X [.one (.int .u64),.one .bool] K:=
 cod (Sh.fH d) 16 [] [] [] f191 h
def Sh.iO(a2:Int)(a1:Int)(a0:Int)(d1:Int)(d0:Int)(v:Int)(R:Value→TW→Prop)(w:TW):Prop:=
Jn [.bool] (λJ0=>
cond (decide ((d1:Int)<9223372036854775808)) (
J0 true w) (
cl Pg F.fZ [.int .u64 a2,.int .u64 a1,.int .u64 d1,.int .u64 d0] w [.one .bool] λ(ok:Bool) w1=>
J0 (!ok) w1)) λ(x:Bool) w2=>
cond x (
R (.tuple #[.int .u64 0,.int .u64 0,.int .u64 0,.bool false]) w2) (
cl Pg F.aR [.int .u64 v,.int .u64 a2] w2 [.one (.int .u64),.one (.int .u64)] λ(r:Int)(r1:Int) w3=>
fS r1 a1 0 λs c=>
fS r a2 c λs1 _=>
bnd (wu (s1*d1)) λn=>
bnd (wu (a1-n)) λn1=>
cl Pg F.aR [.int .u64 d0,.int .u64 s1] w3 [.one (.int .u64),.one (.int .u64)] λ(r2:Int)(r3:Int) w4=>
jT a0 r3 0 λs2 c2=>
jT n1 r2 c2 λs3 _=>
jT s2 d0 0 λs4 c4=>
jT s3 d1 c4 λs5 _=>
bnd (wu (s1+1)) λn2=>
Jn [.int .u64,.int .u64,.int .u64] (λJ1=>
cond (decide ((s5:Int)≥s)) (
bnd (wu (n2-1)) λn3=>
fS s4 d0 0 λs6 c6=>
fS s5 d1 c6 λs7 _=>
J1 s7 s6 n3 w4) (
J1 s5 s4 n2 w4)) λ(r11:Int)(r0:Int)(q1:Int) w5=>
cl Pg F.fZ [.int .u64 r11,.int .u64 r0,.int .u64 d1,.int .u64 d0] w5 [.one .bool] λ(ok1:Bool) w6=>
Jn [.int .u64,.int .u64,.int .u64] (λJ2=>
cond (!ok1) (
bnd (wu (q1+1)) λn4=>
jT r0 d0 0 λs8 c8=>
jT r11 d1 c8 λs9 _=>
J2 s9 s8 n4 w6) (
J2 r11 r0 q1 w6)) λ(r12:Int)(r01:Int)(q11:Int) w7=>
R (.tuple #[.int .u64 q11,.int .u64 r12,.int .u64 r01,.bool true]) w7)
theorem Ct.iO{a2:Int}{v:Int}{K:KT [.one (.int .u64),.one (.int .u64),.one (.int .u64),.one .bool]}(h:Sh.iO a2 a1 a0 d1 d0 v (Rt X [.one (.int .u64),.one (.int .u64),.one (.int .u64),.one .bool] K w) w.here):Ct Pg F.iO [.int .u64 a2,.int .u64 a1,.int .u64 a0,.int .u64 d1,.int .u64 d0,.int .u64 v] w X [.one (.int .u64),.one (.int .u64),.one (.int .u64),.one .bool] K:=
 cod (Sh.iO a2 a1 a0 d1 d0 v) 131 [] [] [(0,1,[(30,.one .bool)]),(1,14,[(13,.one (.int .u64)),(14,.one (.int .u64)),(16,.one (.int .u64))]),(1,18,[(13,.one (.int .u64)),(14,.one (.int .u64)),(16,.one (.int .u64))])] f192 h
def Sh.fZ(a1:Int)(a0:Int)(b1:Int)(b0:Int)(R:Value→TW→Prop)(w:TW):Prop:=
Jn [.bool] (λJ0=>
cond (decide ((a1:Int)<b1)) (
J0 true w) (
cond ((a1:Int) == b1) (
J0 (decide ((a0:Int)<b0)) w) (
J0 false w))) λ(x:Bool) w1=>
R (.bool x) w1
theorem Ct.fZ{b1:Int}{b0:Int}{K:KT [.one .bool]}(h:Sh.fZ a1 a0 b1 b0 (Rt X [.one .bool] K w) w.here):Ct Pg F.fZ [.int .u64 a1,.int .u64 a0,.int .u64 b1,.int .u64 b0] w X [.one .bool] K:=
 cod (Sh.fZ a1 a0 b1 b0) 22 [] [] [(0,1,[(8,.one .bool)])] f226 h
end
end Go.Proofs.YtpbimnlggalnfaaGreatDoor.Zg
