/- A part of the proofs of this seat's laws. -/
import Derived.Test.YtpbimnlggalnfaaGreatDoorGC
set_option linter.unusedVariables false
set_option linter.unusedSimpArgs false
set_option linter.unnecessarySimpa false
namespace Go.Proofs.YtpbimnlggalnfaaGreatDoor.Zg
open Go.RowKit
section
set_option maxRecDepth 100000
open Go.Proofs.Tryz
variable {m:Option Addr} {a b y:Int} {w:TW} {X:Nat→Prop} {K:KT [.one (.int .u64)]}
def Sh.eQ(m:Option Addr)(a:Int)(R:Value→TW→Prop)(w:TW):Prop:=
nck m λa1=>
ldc (.int .u64) w a1 λ(v:Int)=>
dY a v λn=>
R (.int .u64 n) w
theorem Ct.eQ(h:Sh.eQ m a (Rt X [.one (.int .u64)] K w) w.here):Ct Pg F.eQ [.pointer m,.int .u64 a] w X [.one (.int .u64)] K:=
 cod (Sh.eQ m a) 11 [] [] [] f205 h
def Sh.dt(m:Option Addr)(a:Int)(b:Int)(R:Value→TW→Prop)(w:TW):Prop:=
nck m λa1=>
ldc (.int .u64) w.drew a1 λ(v:Int)=>
dY a v λn=>
nck m λa2=>
ldc (.int .u64) w.drew a2 λ(v1:Int)=>
dY b v1 λn1=>
cl Pg F.fU [.pointer m,.int .u64 n,.int .u64 n1] w.drew [.one (.int .u64)] λ(r:Int) w1=>
hld w1 [(a2,.int .u64 v1),(a1,.int .u64 v)] <|
R (.int .u64 r) w1
theorem Ct.dt(h:Sh.dt m a b (Rt X [.one (.int .u64)] K w) w.here):Ct Pg F.dt [.pointer m,.int .u64 a,.int .u64 b] w X [.one (.int .u64)] K:=
 cod (Sh.dt m a b) 21 [] [] [] f207 h
def Sh.aV(m:Option Addr)(a:Int)(b:Int)(R:Value→TW→Prop)(w:TW):Prop:=
nck m λa1=>
ldc (.int .u64) w.drew a1 λ(v:Int)=>
dY a v λn=>
nck m λa2=>
ldc (.int .u64) w.drew a2 λ(v1:Int)=>
dY b v1 λn1=>
cl Pg F.cP [.pointer m,.int .u64 n,.int .u64 n1] w.drew [.one (.int .u64)] λ(r:Int) w1=>
hld w1 [(a2,.int .u64 v1),(a1,.int .u64 v)] <|
R (.int .u64 r) w1
theorem Ct.aV(h:Sh.aV m a b (Rt X [.one (.int .u64)] K w) w.here):Ct Pg F.aV [.pointer m,.int .u64 a,.int .u64 b] w X [.one (.int .u64)] K:=
 cod (Sh.aV m a b) 21 [] [] [] f208 h
def Sh.gI(m:Option Addr)(R:Value→TW→Prop)(w:TW):Prop:=
nck m λa=>
ldc (.int .u64) w a λ(v:Int)=>
R (.int .u64 v) w
theorem Ct.gI(h:Sh.gI m (Rt X [.one (.int .u64)] K w) w.here):Ct Pg F.gI [.pointer m] w X [.one (.int .u64)] K:=
 cod (Sh.gI m) 7 [] [] [] f214 h
def Sh.im(p:Int)(R:Value→TW→Prop)(w:TW):Prop:=
Jn [.bool] (λJ0=>
cond (decide ((p:Int)<3)) (
J0 true w) (
dY p 2 λn=>
cond ((n:Int) == 0) (
J0 true w) (
J0 (decide ((p:Int)≥4611686018427387904)) w))) λ(x:Bool) w1=>
cond x (
R (.tuple #[.pointer none,.int .i64 3]) w1) (
Jn [.int .u64] (λJ1=>
Lp [.int .u64,.int .i64] (λ(inv:Int)(x1:Int) w2 C0=>
cond (decide ((x1:Int)<6)) (
bnd (wu (p*inv)) λn1=>
bnd (wu (2-n1)) λn2=>
bnd (wu (inv*n2)) λn3=>
bnd (wi (x1+1)) λn4=>
C0 n3 n4 w2) (
J1 inv w2)) p 0 w1) λ(inv1:Int) w3=>
bnd (wu (0-inv1)) λn5=>
nwb w3 [.int .u64 p,.int .u64 n5,.int .u64 0,.int .u64 0] T.aaa λb w4=>
cl Pg F.ez [.int .u64 1,.int .u64 0,.int .u64 p] w4 [.one (.int .u64),.one (.int .u64)] λ(_:Int)(r1:Int) w5=>
stc w5 (Addr.add ⟨b,0,none⟩ 2) (.int .u64 r1) λw6=>
ldc (.int .u64) w6.drew (Addr.add ⟨b,0,none⟩ 2) λ(v:Int)=>
ldc (.int .u64) w6.drew (Addr.add ⟨b,0,none⟩ 2) λ(v1:Int)=>
cl Pg F.cP [.pointer (some ⟨b,0,none⟩),.int .u64 v,.int .u64 v1] w6.drew [.one (.int .u64)] λ(r2:Int) w7=>
stc w7 (Addr.add ⟨b,0,none⟩ 3) (.int .u64 r2) λw8=>
R (.tuple #[.pointer (some ⟨b,0,none⟩),.int .i64 0]) w8)
theorem Ct.im{p:Int}{K:KT [.one .ptr,.one (.int .i64)]}(h:Sh.im p (Rt X [.one .ptr,.one (.int .i64)] K w) w.here):Ct Pg F.im [.int .u64 p] w X [.one .ptr,.one (.int .i64)] K:=
 cod (Sh.im p) 54 [] [] [(0,1,[(16,.one .bool)]),(2,0,[(4,.one (.int .u64))]),(3,5,[(4,.one (.int .u64)),(18,.one (.int .i64))])] f231 h
def Sh.fU(m:Option Addr)(a:Int)(b:Int)(R:Value→TW→Prop)(w:TW):Prop:=
bnd (wu (a+b)) λn=>
nck m λa1=>
ldc (.int .u64) w a1 λ(v:Int)=>
Jn [.int .u64] (λJ0=>
cond (decide ((n:Int)≥v)) (
nck m λa2=>
ldc (.int .u64) w a2 λ(v1:Int)=>
bnd (wu (n-v1)) λn1=>
J0 n1 w) (
J0 n w)) λ(s:Int) w1=>
R (.int .u64 s) w1
theorem Ct.fU(h:Sh.fU m a b (Rt X [.one (.int .u64)] K w) w.here):Ct Pg F.fU [.pointer m,.int .u64 a,.int .u64 b] w X [.one (.int .u64)] K:=
 cod (Sh.fU m a b) 24 [] [] [(1,3,[(7,.one (.int .u64))])] f232 h
def Sh.cP(m:Option Addr)(a:Int)(b:Int)(R:Value→TW→Prop)(w:TW):Prop:=
cl Pg F.aJ [.int .u64 a,.int .u64 b] w [.one (.int .u64),.one (.int .u64)] λ(r:Int)(r1:Int) w1=>
nck m λa1=>
ldc (.int .u64) w1 a1 λ(v:Int)=>
cl Pg F.ez [.int .u64 r,.int .u64 r1,.int .u64 v] w1 [.one (.int .u64),.one (.int .u64)] λ(_:Int)(r3:Int) w2=>
R (.int .u64 r3) w2
theorem Ct.cP(h:Sh.cP m a b (Rt X [.one (.int .u64)] K w) w.here):Ct Pg F.cP [.pointer m,.int .u64 a,.int .u64 b] w X [.one (.int .u64)] K:=
 cod (Sh.cP m a b) 28 [] [] [] f233 h
def Sh.eP(m:Option Addr)(a:Int)(b:Int)(R:Value→TW→Prop)(w:TW):Prop:=
nck m λa1=>
ldc (.int .u64) w.drew a1 λ(v:Int)=>
dY a v λn=>
nck m λa2=>
ldc (.int .u64) w.drew a2 λ(v1:Int)=>
dY b v1 λn1=>
cl Pg F.fp [.pointer m,.int .u64 n,.int .u64 n1] w.drew [.one (.int .u64)] λ(r:Int) w1=>
hld w1 [(a2,.int .u64 v1),(a1,.int .u64 v)] <|
R (.int .u64 r) w1
theorem Ct.eP(h:Sh.eP m a b (Rt X [.one (.int .u64)] K w) w.here):Ct Pg F.eP [.pointer m,.int .u64 a,.int .u64 b] w X [.one (.int .u64)] K:=
 cod (Sh.eP m a b) 21 [] [] [] f234 h
def Sh.fp(m:Option Addr)(a:Int)(b:Int)(R:Value→TW→Prop)(w:TW):Prop:=
cond (decide ((a:Int)≥b)) (
bnd (wu (a-b)) λn=>
R (.int .u64 n) w) (
nck m λa1=>
ldc (.int .u64) w a1 λ(v:Int)=>
bnd (wu (a+v)) λn1=>
bnd (wu (n1-b)) λn2=>
R (.int .u64 n2) w)
theorem Ct.fp(h:Sh.fp m a b (Rt X [.one (.int .u64)] K w) w.here):Ct Pg F.fp [.pointer m,.int .u64 a,.int .u64 b] w X [.one (.int .u64)] K:=
 cod (Sh.fp m a b) 21 [] [] [] f252 h
def Sh.d9(m:Option Addr)(a:Int)(R:Value→TW→Prop)(w:TW):Prop:=
nck m λa1=>
ldc (.int .u64) w.drew a1 λ(v:Int)=>
nck m λa2=>
ldc (.int .u64) w.drew a2 λ(v1:Int)=>
dY a v1 λn=>
Jn [.int .u64,.int .u64] (λJ0=>
Lp [.int .u64,.int .u64,.int .u64,.int .u64] (λ(r:Int)(s:Int)(x:Int)(y:Int) w1 C0=>
cond (decide ((s:Int)>0)) (
eI .u64 r s λn1=>
bnd (wu (n1*s)) λn2=>
bnd (wu (r-n2)) λn3=>
nck m λa3=>
ldc (.int .u64) w1 a3 λ(v2:Int)=>
dY n1 v2 λn4=>
cl Pg F.cP [.pointer m,.int .u64 n4,.int .u64 y] w1 [.one (.int .u64)] λ(r1:Int) w2=>
cl Pg F.fp [.pointer m,.int .u64 x,.int .u64 r1] w2 [.one (.int .u64)] λ(r2:Int) w3=>
C0 s n3 y r2 w3) (
J0 r x w1)) v n 0 1 w.drew) λ(r3:Int)(x1:Int) w4=>
cond ((r3:Int) != 1) (
R (.tuple #[.int .u64 0,.bool false]) w4) (
R (.tuple #[.int .u64 x1,.bool true]) w4)
theorem Ct.d9{K:KT [.one (.int .u64),.one .bool]}(h:Sh.d9 m a (Rt X [.one (.int .u64),.one .bool] K w) w.here):Ct Pg F.d9 [.pointer m,.int .u64 a] w X [.one (.int .u64),.one .bool] K:=
 cod (Sh.d9 m a) 48 [] [] [(2,0,[(6,.one (.int .u64)),(8,.one (.int .u64))]),(3,3,[(6,.one (.int .u64)),(7,.one (.int .u64)),(8,.one (.int .u64)),(9,.one (.int .u64))])] f262 h
def Sh.fq(m:Option Addr)(a:Int)(n:Int)(R:Value→TW→Prop)(w:TW):Prop:=
nck m λa1=>
ldc (.int .u64) w.drew a1 λ(v:Int)=>
dY a v λn1=>
nck m λa2=>
ldc (.int .u64) w.drew (a2.add 2) λ(v1:Int)=>
cl Pg F.fC [.pointer m,.int .u64 n1] w.drew [.one (.int .u64)] λ(r:Int) w1=>
hld w1 [((a2.add 2),.int .u64 v1),(a1,.int .u64 v)] <|
Jn [.int .u64] (λJ0=>
Lp [.int .u64,.int .u64,.int .u64] (λ(n2:Int)(x:Int)(out:Int) w2 C0=>
cond (decide ((n2:Int)>0)) (
dY n2 2 λn3=>
Jn [.int .u64] (λJ1=>
cond ((n3:Int) == 1) (
cl Pg F.aJ [.int .u64 out,.int .u64 x] w2 [.one (.int .u64),.one (.int .u64)] λ(r1:Int)(r2:Int) w3=>
cl Pg F.cG [.pointer m,.int .u64 r1,.int .u64 r2] w3 [.one (.int .u64)] λ(r3:Int) w4=>
J1 r3 w4) (
J1 out w2)) λ(out1:Int) w5=>
cl Pg F.aJ [.int .u64 x,.int .u64 x] w5 [.one (.int .u64),.one (.int .u64)] λ(r4:Int)(r5:Int) w6=>
cl Pg F.cG [.pointer m,.int .u64 r4,.int .u64 r5] w6 [.one (.int .u64)] λ(r6:Int) w7=>
eI .u64 n2 2 λn4=>
C0 n4 r6 out1 w7) (
J0 out w2)) n r v1 w1) λ(out2:Int) w8=>
cl Pg F.cG [.pointer m,.int .u64 0,.int .u64 out2] w8 [.one (.int .u64)] λ(r7:Int) w9=>
R (.int .u64 r7) w9
theorem Ct.fq{n:Int}(h:Sh.fq m a n (Rt X [.one (.int .u64)] K w) w.here):Ct Pg F.fq [.pointer m,.int .u64 a,.int .u64 n] w X [.one (.int .u64)] K:=
 cod (Sh.fq m a n) 45 [] [] [(2,0,[(8,.one (.int .u64))]),(3,2,[(2,.one (.int .u64)),(7,.one (.int .u64)),(8,.one (.int .u64))]),(1,4,[(8,.one (.int .u64))])] f268 h
def Sh.eX(m:Option Addr)(y:Int)(R:Value→TW→Prop)(w:TW):Prop:=
nck m λa=>
ldc (.int .u64) w.drew a λ(v:Int)=>
dY y v λn=>
nck m λa1=>
ldc (.int .u64) w.drew a1 λ(v1:Int)=>
cl Pg F.ez [.int .u64 n,.int .u64 0,.int .u64 v1] w.drew [.one (.int .u64),.one (.int .u64)] λ(r:Int)(_:Int) w1=>
hld w1 [(a,.int .u64 v)] <|
R (.int .u64 r) w1
theorem Ct.eX(h:Sh.eX m y (Rt X [.one (.int .u64)] K w) w.here):Ct Pg F.eX [.pointer m,.int .u64 y] w X [.one (.int .u64)] K:=
 cod (Sh.eX m y) 22 [] [] [] f269 h
def Sh.fC(m:Option Addr)(a:Int)(R:Value→TW→Prop)(w:TW):Prop:=
nck m λa1=>
ldc (.int .u64) w (a1.add 3) λ(v:Int)=>
cl Pg F.aJ [.int .u64 a,.int .u64 v] w [.one (.int .u64),.one (.int .u64)] λ(r:Int)(r1:Int) w1=>
cl Pg F.cG [.pointer m,.int .u64 r,.int .u64 r1] w1 [.one (.int .u64)] λ(r2:Int) w2=>
R (.int .u64 r2) w2
theorem Ct.fC(h:Sh.fC m a (Rt X [.one (.int .u64)] K w) w.here):Ct Pg F.fC [.pointer m,.int .u64 a] w X [.one (.int .u64)] K:=
 cod (Sh.fC m a) 15 [] [] [] f273 h
def Sh.cG(m:Option Addr)(hi:Int)(lo:Int)(R:Value→TW→Prop)(w:TW):Prop:=
nck m λa=>
ldc (.int .u64) w (a.add 1) λ(v:Int)=>
bnd (wu (lo*v)) λn=>
nck m λa1=>
ldc (.int .u64) w a1 λ(v1:Int)=>
cl Pg F.aJ [.int .u64 n,.int .u64 v1] w [.one (.int .u64),.one (.int .u64)] λ(r:Int)(r1:Int) w1=>
gf lo r1 0 λ_ c=>
gf hi r c λs1 _=>
nck m λa2=>
ldc (.int .u64) w1 a2 λ(v2:Int)=>
Jn [.int .u64] (λJ0=>
cond (decide ((s1:Int)≥v2)) (
nck m λa3=>
ldc (.int .u64) w1 a3 λ(v3:Int)=>
bnd (wu (s1-v3)) λn1=>
J0 n1 w1) (
J0 s1 w1)) λ(s2:Int) w2=>
R (.int .u64 s2) w2
theorem Ct.cG{hi:Int}{lo:Int}(h:Sh.cG m hi lo (Rt X [.one (.int .u64)] K w) w.here):Ct Pg F.cG [.pointer m,.int .u64 hi,.int .u64 lo] w X [.one (.int .u64)] K:=
 cod (Sh.cG m hi lo) 55 [] [] [(1,6,[(12,.one (.int .u64))])] f274 h
def Sh.dj(m:Option Addr)(a:Int)(y:Int)(s:Int)(R:Value→TW→Prop)(w:TW):Prop:=
nck m λa1=>
ldc (.int .u64) w.drew a1 λ(v:Int)=>
dY a v λn=>
nck m λa2=>
ldc (.int .u64) w.drew a2 λ(v1:Int)=>
dY y v1 λn1=>
cl Pg F.aJ [.int .u64 n,.int .u64 s] w.drew [.one (.int .u64),.one (.int .u64)] λ(r:Int)(_:Int) w1=>
bnd (wu (n*n1)) λn2=>
nck m λa3=>
ldc (.int .u64) w1 a3 λ(v2:Int)=>
bnd (wu (r*v2)) λn3=>
bnd (wu (n2-n3)) λn4=>
nck m λa4=>
ldc (.int .u64) w1 a4 λ(v3:Int)=>
Jn [.int .u64] (λJ0=>
cond (decide ((n4:Int)≥v3)) (
nck m λa5=>
ldc (.int .u64) w1 a5 λ(v4:Int)=>
bnd (wu (n4-v4)) λn5=>
J0 n5 w1) (
J0 n4 w1)) λ(r2:Int) w2=>
nck m λa6=>
ldc (.int .u64) w2 a6 λ(v5:Int)=>
dY r2 v5 λn6=>
R (.int .u64 n6) w2
theorem Ct.dj{s:Int}(h:Sh.dj m a y s (Rt X [.one (.int .u64)] K w) w.here):Ct Pg F.dj [.pointer m,.int .u64 a,.int .u64 y,.int .u64 s] w X [.one (.int .u64)] K:=
 cod (Sh.dj m a y s) 58 [] [] [(1,5,[(11,.one (.int .u64))])] f276 h
end
section
set_option maxRecDepth 100000
open Go.Proofs.Tryz
variable {e0:Option Addr} {a b:Sl} {w:TW} {X:Nat→Prop} {K:KT [.one .slice]}
def Sh.bv(e0:Option Addr)(a:Sl)(b:Sl)(R:Value→TW→Prop)(w:TW):Prop:=
cl Pg F.iJ [a.v] w [.one .slice] λ(s:Sl) w1=>
cl Pg F.iJ [b.v] w1 [.one .slice] λ(s1:Sl) w2=>
cl Pg F.bu [.pointer e0,s.v,s1.v] w2 [.one .slice] λ(s2:Sl) w3=>
R (s2.v) w3
theorem Ct.bv(h:Sh.bv e0 a b (Rt X [.one .slice] K w) w.here):Ct Pg F.bv [.pointer e0,a.v,b.v] w X [.one .slice] K:=
 cod (Sh.bv e0 a b) 13 [] [] [] f100 h
def Sh.bu(e0:Option Addr)(a:Sl)(b:Sl)(R:Value→TW→Prop)(w:TW):Prop:=
Jn [.bool] (λJ0=>
cond (decide (((a.n:Int):Int)>16384)) (
J0 true w) (
J0 (decide (((b.n:Int):Int)>16384)) w)) λ(x:Bool) w1=>
cond x (
cl Pg F.es [.pointer e0,a.v,b.v] w1 [.one .slice] λ(s:Sl) w2=>
R (s.v) w2) (
nck e0 λa1=>
ldc (.ptr) w1 a1 λ(v:Option Addr)=>
nck v λa2=>
ldc (.ptr) w1 a2 λ(v1:Option Addr)=>
nck v1 λa3=>
ldc (.ptr) w1 a3 λ(v2:Option Addr)=>
nck v2 λa4=>
ldc (.ptr) w1 a4 λ(v3:Option Addr)=>
cl Pg F.dM [.pointer v3,.int .i64 (a.n:Int),.int .i64 (b.n:Int)] w1 [.one (.int .i64)] λ(r:Int) w3=>
cl Pg F.et [.pointer e0,.int .i64 r,a.v,b.v] w3 [.one .slice,.one .bool] λ(s1:Sl)(ok:Bool) w4=>
cond (!ok) (
nck e0 λa5=>
ldc (.ptr) w4 a5 λ(v4:Option Addr)=>
nck v4 λa6=>
ldc (.ptr) w4 a6 λ(v5:Option Addr)=>
nck v5 λa7=>
ldc (.ptr) w4 a7 λ(v6:Option Addr)=>
cl Pg F.cC [.pointer v6,a.v,b.v] w4 [.one .slice] λ(s2:Sl) w5=>
R (s2.v) w5) (
R (s1.v) w4))
theorem Ct.bu(h:Sh.bu e0 a b (Rt X [.one .slice] K w) w.here):Ct Pg F.bu [.pointer e0,a.v,b.v] w X [.one .slice] K:=
 cod (Sh.bu e0 a b) 62 [] [] [(0,1,[(16,.one .bool)])] f122 h
def Sh.iJ(a:Sl)(R:Value→TW→Prop)(w:TW):Prop:=
cl Pg F.aS [a.v] w [.one (.int .i64)] λ(r:Int) w1=>
slc a 0 r 1 λs=>
R (s.v) w1
theorem Ct.iJ(h:Sh.iJ a (Rt X [.one .slice] K w) w.here):Ct Pg F.iJ [a.v] w X [.one .slice] K:=
 cod (Sh.iJ a) 7 [] [] [] f123 h
def Sh.es(e0:Option Addr)(a:Sl)(b:Sl)(R:Value→TW→Prop)(w:TW):Prop:=
cl Pg F.cF [.pointer e0,a.v,b.v,.int .i64 16384] w [.one .slice] λ(s:Sl) w1=>
R (s.v) w1
theorem Ct.es(h:Sh.es e0 a b (Rt X [.one .slice] K w) w.here):Ct Pg F.es [.pointer e0,a.v,b.v] w X [.one .slice] K:=
 cod (Sh.es e0 a b) 11 [] [] [] f152 h
def Sh.et(e0:Option Addr)(route:Int)(a:Sl)(b:Sl)(R:Value→TW→Prop)(w:TW):Prop:=
cond ((route:Int) == 0) (
R (.tuple #[.slice none 0 0,.bool true]) w) (
cond ((route:Int) == 1) (
nck e0 λa1=>
ldc (.ptr) w a1 λ(v:Option Addr)=>
nck v λa2=>
ldc (.ptr) w a2 λ(v1:Option Addr)=>
nck v1 λa3=>
ldc (.ptr) w a3 λ(v2:Option Addr)=>
cl Pg F.cC [.pointer v2,a.v,b.v] w [.one .slice] λ(s:Sl) w1=>
R (.tuple #[s.v,.bool true]) w1) (
cond ((route:Int) == 2) (
cl Pg F.dR [.pointer e0,a.v,b.v] w [.one .slice] λ(s1:Sl) w2=>
R (.tuple #[s1.v,.bool true]) w2) (
cond ((route:Int) == 3) (
nck e0 λa4=>
ldc (.ptr) w a4 λ(v3:Option Addr)=>
nck v3 λa5=>
ldc (.ptr) w a5 λ(v4:Option Addr)=>
cl Pg F.dU [.pointer v4,a.v,b.v,.func (.func F.bu) #[.pointer e0] #[]] w [.one .slice,.one .bool] λ(s2:Sl)(ok:Bool) w3=>
R (.tuple #[s2.v,.bool ok]) w3) (
cond ((route:Int) == 4) (
nck e0 λa6=>
ldc (.ptr) w a6 λ(v5:Option Addr)=>
cl Pg F.dL [.pointer v5,a.v,b.v,.func (.func F.bu) #[.pointer e0] #[]] w [.one .slice,.one .bool] λ(s3:Sl)(ok1:Bool) w4=>
R (.tuple #[s3.v,.bool ok1]) w4) (
cond ((route:Int) == 5) (
nck e0 λa7=>
ldc (.ptr) w a7 λ(v6:Option Addr)=>
nck v6 λa8=>
ldc (.ptr) w a8 λ(v7:Option Addr)=>
nck v7 λa9=>
ldc (.ptr) w a9 λ(v8:Option Addr)=>
nck v8 λa10=>
ldc (.ptr) w a10 λ(v9:Option Addr)=>
nck v9 λa11=>
cl Pg F.jF [.pointer (some a11),a.v,b.v] w [.one .slice,.one .bool] λ(s4:Sl)(ok2:Bool) w5=>
R (.tuple #[s4.v,.bool ok2]) w5) (
R (.tuple #[.slice none 0 0,.bool false]) w))))))
theorem Ct.et{route:Int}{K:KT [.one .slice,.one .bool]}(h:Sh.et e0 route a b (Rt X [.one .slice,.one .bool] K w) w.here):Ct Pg F.et [.pointer e0,.int .i64 route,a.v,b.v] w X [.one .slice,.one .bool] K:=
 cod (Sh.et e0 route a b) 85 [] [] [] f153 h
def Sh.cF(e0:Option Addr)(a:Sl)(b:Sl)(n:Int)(R:Value→TW→Prop)(w:TW):Prop:=
Jn [.slice,.slice] (λJ0=>
cond (decide (((a.n:Int):Int)<(b.n:Int))) (
J0 b a w) (
J0 a b w)) λ(a1:Sl)(b1:Sl) w1=>
Jn [.slice] (λJ1=>
Lp [.slice,.int .i64] (λ(parts:Sl)(from0:Int) w2 C0=>
cond (decide ((from0:Int)<(a1.n:Int))) (
bnd (wi (from0+n)) λn1=>
bnd (if (n1:Int)<(a1.n:Int) then n1 else (a1.n:Int)) λn2=>
slc a1 from0 n2 1 λs=>
apd w2 T.ao 1 8 Sl.nil s λs1 w3=>
cl Pg F.bu [.pointer e0,s1.v,b1.v] w3 [.one .slice] λ(s2:Sl) w4=>
nwb w4 [s2.v] T.go λb2 w5=>
apd w5 T.go 1 24 parts ⟨(some ⟨b2,0,none⟩),1,1⟩ λs3 w6=>
bnd (wi (from0+n)) λn3=>
C0 s3 n3 w6) (
J1 parts w2)) Sl.nil 0 w1) λ(parts1:Sl) w7=>
cl Pg F.fY [.int .i64 n,parts1.v] w7 [.one .slice] λ(s4:Sl) w8=>
R (s4.v) w8
theorem Ct.cF{n:Int}(h:Sh.cF e0 a b n (Rt X [.one .slice] K w) w.here):Ct Pg F.cF [.pointer e0,a.v,b.v,.int .i64 n] w X [.one .slice] K:=
 cod (Sh.cF e0 a b n) 44 [] [] [(1,2,[(1,.one .slice),(2,.one .slice)]),(2,0,[(9,.one .slice)]),(3,5,[(9,.one .slice),(10,.one (.int .i64))])] f185 h
def Sh.dR(e0:Option Addr)(a:Sl)(b:Sl)(R:Value→TW→Prop)(w:TW):Prop:=
nck e0 λa1=>
ldc (.ptr) w a1 λ(v:Option Addr)=>
nck v λa2=>
ldc (.ptr) w a2 λ(v1:Option Addr)=>
nck v1 λa3=>
ldc (.ptr) w a3 λ(v2:Option Addr)=>
nck v2 λa4=>
ldc (.ptr) w a4 λ(v3:Option Addr)=>
nck v3 λa5=>
cl Pg F.bM [.pointer (some a5)] w [.one (.int .i64)] λ(_:Int) w1=>
bnd (if ((b.n:Int):Int)<(a.n:Int) then (b.n:Int) else (a.n:Int)) λn=>
cl Pg F.cF [.pointer e0,a.v,b.v,.int .i64 n] w1 [.one .slice] λ(s:Sl) w2=>
nck e0 λa6=>
ldc (.ptr) w2 a6 λ(v4:Option Addr)=>
nck v4 λa7=>
ldc (.ptr) w2 a7 λ(v5:Option Addr)=>
nck v5 λa8=>
ldc (.ptr) w2 a8 λ(v6:Option Addr)=>
nck v6 λa9=>
ldc (.ptr) w2 a9 λ(v7:Option Addr)=>
nck v7 λa10=>
cl Pg F.bL [.pointer (some a10)] w2 [.one (.int .i64)] λ(_:Int) w3=>
R (s.v) w3
theorem Ct.dR(h:Sh.dR e0 a b (Rt X [.one .slice] K w) w.here):Ct Pg F.dR [.pointer e0,a.v,b.v] w X [.one .slice] K:=
 cod (Sh.dR e0 a b) 50 [] [] [] f186 h
def Sh.kB(t:HL I11)(R:Value→TW→Prop)(w:TW):Prop:=
nwv w λw1=>
cl Pg F.jh [.agg (aT I11 t).toArray] w1 [.one .ptr] λ(p:Option Addr) w2=>
nwb w2 [.pointer p] T.wL λb w3=>
R (.pointer (some ⟨b,0,none⟩)) w3
theorem Ct.kB{t:HL I11}{K:KT [.one .ptr]}(h:Sh.kB t (Rt X [.one .ptr] K w) w.here):Ct Pg F.kB [.agg (aT I11 t).toArray] w X [.one .ptr] K:=
 cod (Sh.kB t) 7 [(1,7)] [(7,11)] [] f279 h
end
section
set_option maxRecDepth 100000
open Go.Proofs.Tryz
variable {m t:Option Addr} {a b:Sl} {w:TW} {X:Nat→Prop} {K:KT [.one .slice]}
def Sh.fB(t:Option Addr)(a:Sl)(b:Sl)(R:Value→TW→Prop)(w:TW):Prop:=
Jn [.bool] (λJ0=>
cond (((a.n:Int):Int) == 0) (
J0 true w) (
cond (((b.n:Int):Int) == 0) (
J0 true w) (
cl Pg F.dZ [.pointer t] w [.one (.int .i64)] λ(r:Int) w1=>
cond (decide (((a.n:Int):Int)>r)) (
J0 true w1) (
cl Pg F.dZ [.pointer t] w1 [.one (.int .i64)] λ(r1:Int) w2=>
bnd (wi (r1+1)) λn=>
bnd (wi (n-(a.n:Int))) λn1=>
J0 (decide (((b.n:Int):Int)>n1)) w2)))) λ(x:Bool) w3=>
cond x (
R (.tuple #[.slice none 0 0,.bool false]) w3) (
cl Pg F.ep [.pointer t,a.v,b.v] w3 [.one .slice] λ(s:Sl) w4=>
bnd (wi ((a.n:Int)+(b.n:Int))) λn2=>
bnd (wi (n2-1)) λn3=>
slc s 0 n3 1 λs1=>
R (.tuple #[s1.v,.bool true]) w4)
theorem Ct.fB{K:KT [.one .slice,.one .bool]}(h:Sh.fB t a b (Rt X [.one .slice,.one .bool] K w) w.here):Ct Pg F.fB [.pointer t,a.v,b.v] w X [.one .slice,.one .bool] K:=
 cod (Sh.fB t a b) 45 [] [] [(0,1,[(33,.one .bool)])] f239 h
def Sh.jK(m:Option Addr)(p:Int)(log:Int)(R:Value→TW→Prop)(w:TW):Prop:=
cl Pg F.iB [.int .u64 p,.int .i64 log] w [.one (.int .u64),.one (.int .i64)] λ(r:Int)(r1:Int) w1=>
cond ((r1:Int) != 0) (
R (.tuple #[.pointer none,.int .i64 r1]) w1) (
cl Pg F.im [.int .u64 p] w1 [.one .ptr,.one (.int .i64)] λ(p1:Option Addr)(r2:Int) w2=>
cond ((r2:Int) != 0) (
R (.tuple #[.pointer none,.int .i64 r2]) w2) (
nwb w2 [.pointer p1,.pointer m,.int .i64 log,.slice none 0 0,.slice none 0 0,.slice none 0 0,.slice none 0 0,.int .u64 0] T.zZ λb w3=>
bnd (wu (log)) λn=>
ju .u64 1 n λn1=>
cl Pg F.d9 [.pointer p1,.int .u64 n1] w3 [.one (.int .u64),.one .bool] λ(r3:Int)(_:Bool) w4=>
stc w4 (Addr.add ⟨b,0,none⟩ 7) (.int .u64 r3) λw5=>
cl Pg F.d9 [.pointer p1,.int .u64 r] w5 [.one (.int .u64),.one .bool] λ(r4:Int)(_:Bool) w6=>
eI .u64 n1 2 λn2=>
bnd (wi (n2)) λn3=>
cl Pg F.gG [.pointer p1,.int .u64 r,.int .i64 n3] w6 [.one .slice,.one .slice] λ(s:Sl)(s1:Sl) w7=>
stc w7 (Addr.add ⟨b,0,none⟩ 3) s.v λw8=>
stc w8 (Addr.add ⟨b,0,none⟩ 5) s1.v λw9=>
eI .u64 n1 2 λn4=>
bnd (wi (n4)) λn5=>
cl Pg F.gG [.pointer p1,.int .u64 r4,.int .i64 n5] w9 [.one .slice,.one .slice] λ(s2:Sl)(s3:Sl) w10=>
stc w10 (Addr.add ⟨b,0,none⟩ 4) s2.v λw11=>
stc w11 (Addr.add ⟨b,0,none⟩ 6) s3.v λw12=>
R (.tuple #[.pointer (some ⟨b,0,none⟩),.int .i64 0]) w12))
theorem Ct.jK{p:Int}{log:Int}{K:KT [.one .ptr,.one (.int .i64)]}(h:Sh.jK m p log (Rt X [.one .ptr,.one (.int .i64)] K w) w.here):Ct Pg F.jK [.pointer m,.int .u64 p,.int .i64 log] w X [.one .ptr,.one (.int .i64)] K:=
 cod (Sh.jK m p log) 86 [] [] [] f254 h
def Sh.dZ(t:Option Addr)(R:Value→TW→Prop)(w:TW):Prop:=
nck t λa=>
ldc (.int .i64) w (a.add 2) λ(v:Int)=>
bnd (wu (v)) λn=>
ju .i64 1 n λn1=>
R (.int .i64 n1) w
theorem Ct.dZ{K:KT [.one (.int .i64)]}(h:Sh.dZ t (Rt X [.one (.int .i64)] K w) w.here):Ct Pg F.dZ [.pointer t] w X [.one (.int .i64)] K:=
 cod (Sh.dZ t) 9 [] [] [] f257 h
def Sh.ep(t:Option Addr)(a:Sl)(b:Sl)(R:Value→TW→Prop)(w:TW):Prop:=
cl Pg F.cV [.pointer t,a.v] w [.one .slice] λ(s:Sl) w1=>
cl Pg F.cV [.pointer t,b.v] w1 [.one .slice] λ(s1:Sl) w2=>
Jn [] (λJ0=>
Lp [.int .i64] (λ(x:Int) w3 C0=>
cond (decide ((x:Int)<(s.n:Int))) (
nck t λa1=>
ldc (.ptr) w3.drew a1 λ(v:Option Addr)=>
ixa s x 1 λa2=>
ldc (.int .u64) w3.drew a2 λ(v1:Int)=>
ixa s1 x 1 λa3=>
ldc (.int .u64) w3.drew a3 λ(v2:Int)=>
cl Pg F.aV [.pointer v,.int .u64 v1,.int .u64 v2] w3.drew [.one (.int .u64)] λ(r:Int) w4=>
ixa s x 1 λa4=>
stc w4 a4 (.int .u64 r) λw5=>
bnd (wi (x+1)) λn=>
C0 n w5) (
J0 w3)) 0 w2) fun  w6=>
nck t λa5=>
ldc (.ptr) w6 (a5.add 1) λ(v3:Option Addr)=>
cl Pg F.aO [.pointer v3,.int .i64 (s.n:Int)] w6 [.one (.int .i64)] λ(_:Int) w7=>
cl Pg F.dQ [.pointer t,s.v] w7 [.one .slice] λ(s2:Sl) w8=>
R (s2.v) w8
theorem Ct.ep(h:Sh.ep t a b (Rt X [.one .slice] K w) w.here):Ct Pg F.ep [.pointer t,a.v,b.v] w X [.one .slice] K:=
 cod (Sh.ep t a b) 48 [] [] [(2,0,[]),(3,3,[(18,.one (.int .i64))])] f258 h
def Sh.gG(m:Option Addr)(y:Int)(n:Int)(R:Value→TW→Prop)(w:TW):Prop:=
Jn [.slice,.slice] (λJ0=>
(mks w.drew n n T.ao 8 [.int .u64 0] λs w1=>
mks w1 n n T.ao 8 [.int .u64 0] λs1 w2=>
J0 s s1 w2)∧
(mks w.drew n n T.ao 8 [.int .u64 0] λs2 w3=>
mks w3 n n T.ao 8 [.int .u64 0] λs3 w4=>
J0 s3 s2 w4)) λ(l:Sl)(s4:Sl) w5=>
Jn [] (λJ1=>
Lp [.int .u64,.int .i64] (λ(x:Int)(x1:Int) w6 C0=>
cond (decide ((x1:Int)<(l.n:Int))) (
ixa l x1 1 λa=>
stc w6 a (.int .u64 x) λw7=>
cl Pg F.eX [.pointer m,.int .u64 x] w7 [.one (.int .u64)] λ(r:Int) w8=>
ixa s4 x1 1 λa1=>
stc w8 a1 (.int .u64 r) λw9=>
cl Pg F.aV [.pointer m,.int .u64 x,.int .u64 y] w9 [.one (.int .u64)] λ(r1:Int) w10=>
bnd (wi (x1+1)) λn1=>
C0 r1 n1 w10) (
J1 w6)) 1 0 w5) fun  w11=>
R (.tuple #[l.v,s4.v]) w11
theorem Ct.gG{y:Int}{n:Int}{K:KT [.one .slice,.one .slice]}(h:Sh.gG m y n (Rt X [.one .slice,.one .slice] K w) w.here):Ct Pg F.gG [.pointer m,.int .u64 y,.int .i64 n] w X [.one .slice,.one .slice] K:=
 cod (Sh.gG m y n) 38 [] [] [(0,1,[(8,.one .slice),(9,.one .slice)]),(2,0,[]),(3,4,[(10,.one (.int .u64)),(18,.one (.int .i64))])] f264 h
def Sh.cV(t:Option Addr)(a:Sl)(R:Value→TW→Prop)(w:TW):Prop:=
cl Pg F.dA [.pointer t,a.v] w [.one .slice] λ(s:Sl) w1=>
nck t λa1=>
ldc (.slice) w1.drew (a1.add 3) λ(v:Sl)=>
nck t λa2=>
ldc (.slice) w1.drew (a2.add 5) λ(v1:Sl)=>
cl Pg F.bU [.pointer t,s.v,v.v,v1.v] w1.drew [] λw2=>
R (s.v) w2
theorem Ct.cV(h:Sh.cV t a (Rt X [.one .slice] K w) w.here):Ct Pg F.cV [.pointer t,a.v] w X [.one .slice] K:=
 cod (Sh.cV t a) 21 [] [] [] f265 h
def Sh.dQ(t:Option Addr)(a:Sl)(R:Value→TW→Prop)(w:TW):Prop:=
cl Pg F.dA [.pointer t,a.v] w [.one .slice] λ(s:Sl) w1=>
nck t λa1=>
ldc (.slice) w1.drew (a1.add 4) λ(v:Sl)=>
nck t λa2=>
ldc (.slice) w1.drew (a2.add 6) λ(v1:Sl)=>
cl Pg F.bU [.pointer t,s.v,v.v,v1.v] w1.drew [] λw2=>
Jn [] (λJ0=>
Lp [.int .i64] (λ(x:Int) w3 C0=>
cond (decide ((x:Int)<(s.n:Int))) (
ixa s x 1 λa3=>
ldc (.int .u64) w3 a3 λ(v2:Int)=>
nck t λa4=>
ldc (.ptr) w3.drew a4 λ(v3:Option Addr)=>
nck t λa5=>
ldc (.int .u64) w3.drew (a5.add 7) λ(v4:Int)=>
cl Pg F.aV [.pointer v3,.int .u64 v2,.int .u64 v4] w3.drew [.one (.int .u64)] λ(r:Int) w4=>
ixa s x 1 λa6=>
stc w4 a6 (.int .u64 r) λw5=>
bnd (wi (x+1)) λn=>
C0 n w5) (
J0 w3)) 0 w2) fun  w6=>
nck t λa7=>
ldc (.ptr) w6 (a7.add 1) λ(v5:Option Addr)=>
cl Pg F.aO [.pointer v5,.int .i64 (s.n:Int)] w6 [.one (.int .i64)] λ(_:Int) w7=>
R (s.v) w7
theorem Ct.dQ(h:Sh.dQ t a (Rt X [.one .slice] K w) w.here):Ct Pg F.dQ [.pointer t,a.v] w X [.one .slice] K:=
 cod (Sh.dQ t a) 51 [] [] [(2,0,[]),(3,4,[(24,.one (.int .i64))])] f266 h
def Sh.dA(t:Option Addr)(a:Sl)(R:Value→TW→Prop)(w:TW):Prop:=
cl Pg F.dZ [.pointer t] w [.one (.int .i64)] λ(r:Int) w1=>
mks w1 r r T.ao 8 [.int .u64 0] λs w2=>
Jn [] (λJ0=>
Lp [.int .i64] (λ(x:Int) w3 C0=>
cond (decide ((x:Int)<(a.n:Int))) (
ixa a x 1 λa1=>
ldc (.int .u64) w3 a1 λ(v:Int)=>
bnd (wu (x)) λn=>
nck t λa2=>
ldc (.int .i64) w3.drew (a2.add 2) λ(v1:Int)=>
bnd (wi (64-v1)) λn1=>
bnd (wu (n1)) λn2=>
nck t λa3=>
ldc (.ptr) w3.drew a3 λ(v2:Option Addr)=>
cl Pg F.fc [.int .u64 n] w3.drew [.one (.int .u64)] λ(r1:Int) w4=>
hld w4 [(a3,.pointer v2),((a2.add 2),.int .i64 v1)] <|
gc .u64 r1 n2 λn3=>
cl Pg F.eQ [.pointer v2,.int .u64 v] w4 [.one (.int .u64)] λ(r2:Int) w5=>
hld w5 [((a2.add 2),.int .i64 v1)] <|
ixa s n3 1 λa4=>
stc w5 a4 (.int .u64 r2) λw6=>
bnd (wi (x+1)) λn4=>
C0 n4 w6) (
J0 w3)) 0 w2) fun  w7=>
R (s.v) w7
theorem Ct.dA(h:Sh.dA t a (Rt X [.one .slice] K w) w.here):Ct Pg F.dA [.pointer t,a.v] w X [.one .slice] K:=
 cod (Sh.dA t a) 38 [] [] [(2,0,[]),(3,3,[(13,.one (.int .i64))])] f270 h
def Sh.bU(t:Option Addr)(a:Sl)(l:Sl)(s:Sl)(R:Value→TW→Prop)(w:TW):Prop:=
nck t λa1=>
ldc (.ptr) w a1 λ(v:Option Addr)=>
cl Pg F.gI [.pointer v] w [.one (.int .u64)] λ(r:Int) w1=>
Jn [] (λJ0=>
Lp [.int .i64] (λ(half:Int) w2 C0=>
cond (decide ((half:Int)<(a.n:Int))) (
bnd (wi (2*half)) λn=>
eI .i64 (a.n:Int) n λn1=>
Jn [] (λJ1=>
Lp [.int .i64] (λ(from0:Int) w3 C1=>
cond (decide ((from0:Int)<(a.n:Int))) (
Jn [] (λJ2=>
Lp [.int .i64] (λ(j:Int) w4 C2=>
cond (decide ((j:Int)<half)) (
bnd (wi (from0+j)) λn2=>
ixa a n2 1 λa2=>
ldc (.int .u64) w4 a2 λ(v1:Int)=>
nck t λa3=>
ldc (.ptr) w4.drew a3 λ(v2:Option Addr)=>
bnd (wi (from0+half)) λn3=>
bnd (wi (n3+j)) λn4=>
ixa a n4 1 λa4=>
ldc (.int .u64) w4.drew a4 λ(v3:Int)=>
bnd (wi (j*n1)) λn5=>
ixa l n5 1 λa5=>
ldc (.int .u64) w4.drew a5 λ(v4:Int)=>
bnd (wi (j*n1)) λn6=>
ixa s n6 1 λa6=>
ldc (.int .u64) w4.drew a6 λ(v5:Int)=>
cl Pg F.dj [.pointer v2,.int .u64 v3,.int .u64 v4,.int .u64 v5] w4.drew [.one (.int .u64)] λ(r1:Int) w5=>
bnd (wu (v1+r1)) λn7=>
Jn [.int .u64] (λJ3=>
cond (decide ((n7:Int)≥r)) (
bnd (wu (n7-r)) λn8=>
J3 n8 w5) (
J3 n7 w5)) λ(sum:Int) w6=>
bnd (wi (from0+j)) λn9=>
ixa a n9 1 λa7=>
stc w6 a7 (.int .u64 sum) λw7=>
Jn [.int .u64] (λJ4=>
cond (decide ((v1:Int)<r1)) (
bnd (wu (v1+r)) λn10=>
J4 n10 w7) (
J4 v1 w7)) λ(x:Int) w8=>
bnd (wi (from0+half)) λn11=>
bnd (wi (n11+j)) λn12=>
bnd (wu (x-r1)) λn13=>
ixa a n12 1 λa8=>
stc w8 a8 (.int .u64 n13) λw9=>
bnd (wi (j+1)) λn14=>
C2 n14 w9) (
J2 w4)) 0 w3) fun  w10=>
bnd (wi (2*half)) λn15=>
bnd (wi (from0+n15)) λn16=>
C1 n16 w10) (
J1 w3)) 0 w2) fun  w11=>
bnd (wi (2*half)) λn17=>
C0 n17 w11) (
J0 w2)) 1 w1) fun  w12=>
nck t λa9=>
ldc (.ptr) w12.drew (a9.add 1) λ(v6:Option Addr)=>
eI .i64 (a.n:Int) 2 λn18=>
nck t λa10=>
ldc (.int .i64) w12.drew (a10.add 2) λ(v7:Int)=>
bnd (wi (n18*v7)) λn19=>
cl Pg F.aO [.pointer v6,.int .i64 n19] w12.drew [.one (.int .i64)] λ(_:Int) w13=>
hld w13 [((a10.add 2),.int .i64 v7)] <|
R (.tuple #[]) w13
theorem Ct.bU{l:Sl}{s:Sl}{K:KT []}(h:Sh.bU t a l s (Rt X [] K w) w.here):Ct Pg F.bU [.pointer t,a.v,l.v,s.v] w X [] K:=
 cod (Sh.bU t a l s) 120 [] [] [(2,0,[]),(3,2,[(9,.one (.int .i64))]),(2,2,[]),(3,6,[(11,.one (.int .i64))]),(2,4,[]),(3,9,[(12,.one (.int .i64))]),(1,15,[(15,.one (.int .u64))]),(1,18,[(13,.one (.int .u64))])] f271 h
end
section
set_option maxRecDepth 100000
open Go.Proofs.Tryz
variable {w:TW} {X:Nat→Prop} {K:KT [.agg [.slice,.bool]]} {a0 b0:Sl} {a1 b1:Bool}
def Sh.fT(n:Int)(R:Value→TW→Prop)(w:TW):Prop:=
nwv w λw1=>
cond (decide ((n:Int)<0)) (
bnd (wu (n)) λn1=>
bnd (wu (0-n1)) λn2=>
cl Pg F.bZ [.int .u64 n2] w1 [.one .slice] λ(s:Sl) w2=>
cl Pg F.eO [s.v,.bool true] w2 [.agg [.slice,.bool]] λ(r:Sl)(r1:Bool) w3=>
nwv w3 λw4=>
R (.agg #[r.v,.bool r1]) w4) (
bnd (wu (n)) λn3=>
cl Pg F.bZ [.int .u64 n3] w1 [.one .slice] λ(s1:Sl) w5=>
cl Pg F.eO [s1.v,.bool false] w5 [.agg [.slice,.bool]] λ(r2:Sl)(r3:Bool) w6=>
nwv w6 λw7=>
R (.agg #[r2.v,.bool r3]) w7)
theorem Ct.fT{n:Int}(h:Sh.fT n (Rt X [.agg [.slice,.bool]] K w) w.here):Ct Pg F.fT [.int .i64 n] w X [.agg [.slice,.bool]] K:=
 cod (Sh.fT n) 14 [(2,14)] [(14,2)] [] f63 h
def Sh.jZ(a0:Sl)(a1:Bool)(b0:Sl)(b1:Bool)(R:Value→TW→Prop)(w:TW):Prop:=
nwv w λw1=>
nwv w1 λw2=>
cl Pg F.ft [.agg #[a0.v,.bool a1]] w2.drew [.one (.int .i64)] λ(r:Int) w3=>
cl Pg F.ft [.agg #[b0.v,.bool b1]] w3 [.one (.int .i64)] λ(r1:Int) w4=>
cond ((r:Int) != r1) (
cond (decide ((r:Int)<r1)) (
R (.int .i64 (-1)) w4) (
R (.int .i64 1) w4)) (
cl Pg F.fF [a0.v,b0.v] w4 [.one (.int .i64)] λ(r2:Int) w5=>
cond (decide ((r:Int)<0)) (
bnd (wi (0-r2)) λn=>
R (.int .i64 n) w5) (
R (.int .i64 r2) w5))
theorem Ct.jZ{K:KT [.one (.int .i64)]}(h:Sh.jZ a0 a1 b0 b1 (Rt X [.one (.int .i64)] K w) w.here):Ct Pg F.jZ [.agg #[a0.v,.bool a1],.agg #[b0.v,.bool b1]] w X [.one (.int .i64)] K:=
 cod (Sh.jZ a0 a1 b0 b1) 28 [(2,28),(3,30)] [(28,2),(30,2)] [] f65 h
def Sh.jY(a0:Sl)(a1:Bool)(R:Value→TW→Prop)(w:TW):Prop:=
nwv w λw1=>
nwv w1 λw2=>
cl Pg F.aW [a0.v] w2.drew [.one .slice] λ(s:Sl) w3=>
cl Pg F.eO [s.v,.bool (!a1)] w3 [.agg [.slice,.bool]] λ(r:Sl)(r1:Bool) w4=>
nwv w4 λw5=>
R (.agg #[r.v,.bool r1]) w5
theorem Ct.jY(h:Sh.jY a0 a1 (Rt X [.agg [.slice,.bool]] K w) w.here):Ct Pg F.jY [.agg #[a0.v,.bool a1]] w X [.agg [.slice,.bool]] K:=
 cod (Sh.jY a0 a1) 10 [(1,10),(2,12)] [(10,2),(12,2)] [] f68 h
def Sh.jJ(a0:Sl)(a1:Bool)(b0:Sl)(b1:Bool)(R:Value→TW→Prop)(w:TW):Prop:=
nwv w λw1=>
nwv w1 λw2=>
nwv w2 λw3=>
cl Pg F.iW [.agg #[a0.v,.bool a1],.agg #[b0.v,.bool (!b1)]] w3 [.agg [.slice,.bool]] λ(r:Sl)(r1:Bool) w4=>
nwv w4 λw5=>
R (.agg #[r.v,.bool r1]) w5
theorem Ct.jJ(h:Sh.jJ a0 a1 b0 b1 (Rt X [.agg [.slice,.bool]] K w) w.here):Ct Pg F.jJ [.agg #[a0.v,.bool a1],.agg #[b0.v,.bool b1]] w X [.agg [.slice,.bool]] K:=
 cod (Sh.jJ a0 a1 b0 b1) 13 [(2,13),(3,15),(4,17)] [(13,2),(15,2),(17,2)] [] f70 h
def Sh.ay(e0:Option Addr)(a0:Sl)(a1:Bool)(b0:Sl)(b1:Bool)(R:Value→TW→Prop)(w:TW):Prop:=
nwv w λw1=>
nwv w1 λw2=>
nwv w2 λw3=>
nck e0 λa2=>
ldc (.ptr) w3.drew a2 λ(v:Option Addr)=>
nck v λa3=>
ldc (.ptr) w3.drew a3 λ(v1:Option Addr)=>
nck v1 λa4=>
ldc (.ptr) w3.drew a4 λ(v2:Option Addr)=>
cl Pg F.dX [.pointer v2,a0.v,b0.v] w3.drew [.one .slice,.one (.int .i64)] λ(s:Sl)(r:Int) w4=>
hld w4 [(a3,.pointer v1),(a2,.pointer v)] <|
cond ((r:Int) != 0) (
nwv w4 λw5=>
R (.tuple #[.agg #[.slice none 0 0,.bool false],.int .i64 r]) w5) (
cl Pg F.eO [s.v,.bool (!(a1 == b1))] w4 [.agg [.slice,.bool]] λ(r1:Sl)(r2:Bool) w6=>
nwv w6 λw7=>
R (.tuple #[.agg #[r1.v,.bool r2],.int .i64 0]) w7)
theorem Ct.ay{e0:Option Addr}{K:KT [.agg [.slice,.bool],.one (.int .i64)]}(h:Sh.ay e0 a0 a1 b0 b1 (Rt X [.agg [.slice,.bool],.one (.int .i64)] K w) w.here):Ct Pg F.ay [.pointer e0,.agg #[a0.v,.bool a1],.agg #[b0.v,.bool b1]] w X [.agg [.slice,.bool],.one (.int .i64)] K:=
 cod (Sh.ay e0 a0 a1 b0 b1) 39 [(4,39),(5,41),(6,43)] [(39,2),(41,2),(43,2)] [] f72 h
def Sh.il(a0:Sl)(a1:Bool)(R:Value→TW→Prop)(w:TW):Prop:=
nwv w λw1=>
nwv w1 λw2=>
cl Pg F.aW [a0.v] w2.drew [.one .slice] λ(s:Sl) w3=>
cl Pg F.eO [s.v,.bool a1] w3 [.agg [.slice,.bool]] λ(r:Sl)(r1:Bool) w4=>
nwv w4 λw5=>
R (.agg #[r.v,.bool r1]) w5
theorem Ct.il(h:Sh.il a0 a1 (Rt X [.agg [.slice,.bool]] K w) w.here):Ct Pg F.il [.agg #[a0.v,.bool a1]] w X [.agg [.slice,.bool]] K:=
 cod (Sh.il a0 a1) 9 [(1,9),(2,11)] [(9,2),(11,2)] [] f87 h
def Sh.eO(size:Sl)(neg:Bool)(R:Value→TW→Prop)(w:TW):Prop:=
nwv w λw1=>
Jn [.slice,.bool] (λJ0=>
cond neg (
cl Pg F.az [size.v] w1 [.one .bool] λ(ok:Bool) w2=>
nwv w2 λw3=>
J0 size (!ok) w3) (
nwv w1 λw4=>
J0 size false w4)) λ(x:Sl)(x1:Bool) w5=>
R (.agg #[x.v,.bool x1]) w5
theorem Ct.eO{size:Sl}{neg:Bool}(h:Sh.eO size neg (Rt X [.agg [.slice,.bool]] K w) w.here):Ct Pg F.eO [size.v,.bool neg] w X [.agg [.slice,.bool]] K:=
 cod (Sh.eO size neg) 13 [(4,13)] [(13,2)] [(0,1,[(13,.one .slice),(14,.one .bool)])] f91 h
def Sh.iW(a0:Sl)(a1:Bool)(b0:Sl)(b1:Bool)(R:Value→TW→Prop)(w:TW):Prop:=
nwv w λw1=>
nwv w1 λw2=>
nwv w2 λw3=>
cond (a1 == b1) (
cl Pg F.ek [a0.v,b0.v] w3.drew [.one .slice] λ(s:Sl) w4=>
cl Pg F.eO [s.v,.bool a1] w4 [.agg [.slice,.bool]] λ(r:Sl)(r1:Bool) w5=>
nwv w5 λw6=>
R (.agg #[r.v,.bool r1]) w6) (
cl Pg F.dw [a0.v,b0.v] w3 [.one .slice,.one .bool] λ(s1:Sl)(ok:Bool) w7=>
cond ok (
cl Pg F.eO [s1.v,.bool a1] w7 [.agg [.slice,.bool]] λ(r2:Sl)(r3:Bool) w8=>
nwv w8 λw9=>
R (.agg #[r2.v,.bool r3]) w9) (
cl Pg F.dw [b0.v,a0.v] w7 [.one .slice,.one .bool] λ(s2:Sl)(_:Bool) w10=>
cl Pg F.eO [s2.v,.bool b1] w10 [.agg [.slice,.bool]] λ(r4:Sl)(r5:Bool) w11=>
nwv w11 λw12=>
R (.agg #[r4.v,.bool r5]) w12))
theorem Ct.iW(h:Sh.iW a0 a1 b0 b1 (Rt X [.agg [.slice,.bool]] K w) w.here):Ct Pg F.iW [.agg #[a0.v,.bool a1],.agg #[b0.v,.bool b1]] w X [.agg [.slice,.bool]] K:=
 cod (Sh.iW a0 a1 b0 b1) 47 [(2,47),(3,49),(4,51)] [(47,2),(49,2),(51,2)] [] f101 h
def Sh.kA(t:HL I11)(R:Value→TW→Prop)(w:TW):Prop:=
nwv w λw1=>
cl Pg F.jy [.agg (aT I11 t).toArray] w1 [.one .ptr] λ(p:Option Addr) w2=>
nwb w2 [.pointer p] T.wK λb w3=>
R (.pointer (some ⟨b,0,none⟩)) w3
theorem Ct.kA{t:HL I11}{K:KT [.one .ptr]}(h:Sh.kA t (Rt X [.one .ptr] K w) w.here):Ct Pg F.kA [.agg (aT I11 t).toArray] w X [.one .ptr] K:=
 cod (Sh.kA t) 7 [(1,7)] [(7,11)] [] f230 h
end
end Go.Proofs.YtpbimnlggalnfaaGreatDoor.Zg
