/- A part of the proofs of this seat's laws. -/
import Derived.Test.YtpbimnlggalnfaaGreatDoorGC
set_option linter.unusedVariables false
set_option linter.unusedSimpArgs false
set_option linter.unnecessarySimpa false
namespace Go.Proofs.YtpbimnlggalnfaaGreatDoor.Zg
open Go.RowKit
section
set_option maxRecDepth 100000
open Go.Proofs.Tryz
variable {n:Sl} {w:TW} {X:Nat→Prop} {K:KT [.one (.int .i64)]}
def Sh.az(n:Sl)(R:Value→TW→Prop)(w:TW):Prop:=
cl Pg F.aS [n.v] w [.one (.int .i64)] λ(r:Int) w1=>
R (.bool ((r:Int) == 0)) w1
theorem Ct.az{K:KT [.one .bool]}(h:Sh.az n (Rt X [.one .bool] K w) w.here):Ct Pg F.az [n.v] w X [.one .bool] K:=
 cod (Sh.az n) 6 [] [] [] f89 h
def Sh.ft(i0:Sl)(i1:Bool)(R:Value→TW→Prop)(w:TW):Prop:=
nwv w λw1=>
cl Pg F.az [i0.v] w1 [.one .bool] λ(ok:Bool) w2=>
cond ok (
R (.int .i64 0) w2) (
cond i1 (
R (.int .i64 (-1)) w2) (
R (.int .i64 1) w2))
theorem Ct.ft{i0:Sl}{i1:Bool}(h:Sh.ft i0 i1 (Rt X [.one (.int .i64)] K w) w.here):Ct Pg F.ft [.agg #[i0.v,.bool i1]] w X [.one (.int .i64)] K:=
 cod (Sh.ft i0 i1) 10 [(1,10)] [(10,2)] [] f93 h
def Sh.aS(n:Sl)(R:Value→TW→Prop)(w:TW):Prop:=
Jn [.int .i64] (λJ0=>
Lp [.int .i64] (λ(k:Int) w1 C0=>
Jn [.bool] (λJ1=>
cond (decide ((k:Int)>0)) (
bnd (wi (k-1)) λn1=>
ixa n n1 1 λa=>
ldc (.int .u64) w1 a λ(v:Int)=>
J1 ((v:Int) == 0) w1) (
J1 false w1)) λ(x:Bool) w2=>
cond x (
bnd (wi (k-1)) λn2=>
C0 n2 w2) (
J0 k w2)) (n.n:Int) w) λ(k1:Int) w3=>
R (.int .i64 k1) w3
theorem Ct.aS(h:Sh.aS n (Rt X [.one (.int .i64)] K w) w.here):Ct Pg F.aS [n.v] w X [.one (.int .i64)] K:=
 cod (Sh.aS n) 19 [] [] [(2,0,[(3,.one (.int .i64))]),(3,2,[(3,.one (.int .i64))]),(0,2,[(15,.one .bool)])] f109 h
def Sh.cd(n:Sl)(R:Value→TW→Prop)(w:TW):Prop:=
cl Pg F.aS [n.v] w [.one (.int .i64)] λ(r:Int) w1=>
cond ((r:Int) == 0) (
R (.int .i64 0) w1) (
bnd (wi (r-1)) λn1=>
bnd (wi (64*n1)) λn2=>
bnd (wi (r-1)) λn3=>
ixa n n3 1 λa=>
ldc (.int .u64) w1 a λ(v:Int)=>
cl Pg F.fe [.int .u64 v] w1 [.one (.int .i64)] λ(r1:Int) w2=>
bnd (wi (n2+r1)) λn4=>
R (.int .i64 n4) w2)
theorem Ct.cd(h:Sh.cd n (Rt X [.one (.int .i64)] K w) w.here):Ct Pg F.cd [n.v] w X [.one (.int .i64)] K:=
 cod (Sh.cd n) 18 [] [] [] f115 h
end
section
set_option maxRecDepth 100000
open Go.Proofs.Tryz
variable {x y:Int} {w:TW} {X:Nat→Prop} {K:KT [.one (.int .i64)]}
def Sh.jo(x:Int)(R:Value→TW→Prop)(w:TW):Prop:=
cl Pg F.fe [.int .u64 x] w [.one (.int .i64)] λ(r:Int) w1=>
R (.int .i64 r) w1
theorem Ct.jo(h:Sh.jo x (Rt X [.one (.int .i64)] K w) w.here):Ct Pg F.jo [.int .u64 x] w X [.one (.int .i64)] K:=
 cod (Sh.jo x) 8 [] [] [] f139 h
def Sh.fe(x:Int)(R:Value→TW→Prop)(w:TW):Prop:=
Jn [.int .u64,.int .i64] (λJ0=>
cond (decide ((x:Int)≥4294967296)) (
gc .u64 x 32 λn=>
J0 n 32 w) (
J0 x 0 w)) λ(x1:Int)(n1:Int) w1=>
Jn [.int .u64,.int .i64] (λJ1=>
cond (decide ((x1:Int)≥65536)) (
gc .u64 x1 16 λn2=>
bnd (wi (n1+16)) λn3=>
J1 n2 n3 w1) (
J1 x1 n1 w1)) λ(x2:Int)(n4:Int) w2=>
Jn [.int .u64,.int .i64] (λJ2=>
cond (decide ((x2:Int)≥256)) (
gc .u64 x2 8 λn5=>
bnd (wi (n4+8)) λn6=>
J2 n5 n6 w2) (
J2 x2 n4 w2)) λ(x3:Int)(n7:Int) w3=>
bnd (IntKind.u8.wrap (x3)) λn8=>
ixs (⟨#[0,1,2,2,3,3,3,3,4,4,4,4,4,4,4,4,5,5,5,5,5,5,5,5,5,5,5,5,5,5,5,5,6,6,6,6,6,6,6,6,6,6,6,6,6,6,6,6,6,6,6,6,6,6,6,6,6,6,6,6,6,6,6,6,7,7,7,7,7,7,7,7,7,7,7,7,7,7,7,7,7,7,7,7,7,7,7,7,7,7,7,7,7,7,7,7,7,7,7,7,7,7,7,7,7,7,7,7,7,7,7,7,7,7,7,7,7,7,7,7,7,7,7,7,7,7,7,7,8,8,8,8,8,8,8,8,8,8,8,8,8,8,8,8,8,8,8,8,8,8,8,8,8,8,8,8,8,8,8,8,8,8,8,8,8,8,8,8,8,8,8,8,8,8,8,8,8,8,8,8,8,8,8,8,8,8,8,8,8,8,8,8,8,8,8,8,8,8,8,8,8,8,8,8,8,8,8,8,8,8,8,8,8,8,8,8,8,8,8,8,8,8,8,8,8,8,8,8,8,8,8,8,8,8,8,8,8,8,8,8,8,8,8,8,8,8,8,8,8,8,8,8,8,8,8,8]⟩:ByteArray) n8 λn9=>
bnd (wi (n9)) λn10=>
bnd (wi (n7+n10)) λn11=>
R (.int .i64 n11) w3
theorem Ct.fe(h:Sh.fe x (Rt X [.one (.int .i64)] K w) w.here):Ct Pg F.fe [.int .u64 x] w X [.one (.int .i64)] K:=
 cod (Sh.fe x) 25 [] [] [(1,2,[(0,.one (.int .u64)),(2,.one (.int .i64))]),(1,5,[(0,.one (.int .u64)),(2,.one (.int .i64))]),(1,8,[(0,.one (.int .u64)),(2,.one (.int .i64))])] f142 h
def Sh.bH(x:Int)(R:Value→TW→Prop)(w:TW):Prop:=
cl Pg F.fe [.int .u64 x] w [.one (.int .i64)] λ(r:Int) w1=>
bnd (wi (64-r)) λn=>
R (.int .i64 n) w1
theorem Ct.bH(h:Sh.bH x (Rt X [.one (.int .i64)] K w) w.here):Ct Pg F.bH [.int .u64 x] w X [.one (.int .i64)] K:=
 cod (Sh.bH x) 6 [] [] [] f158 h
def Sh.bB(x:Int)(R:Value→TW→Prop)(w:TW):Prop:=
cond ((x:Int) == 0) (
R (.int .i64 64) w) (
bnd (wu (0-x)) λn=>
bnd (bh .and .u64 x n) λn1=>
bnd (wu (n1*285870213051353865)) λn2=>
gc .u64 n2 58 λn3=>
ixp ⟨0,0,none⟩ n3 64 1 λa=>
ldc (.int .u8) w a λ(v:Int)=>
bnd (wi (v)) λn4=>
R (.int .i64 n4) w)
theorem Ct.bB(h:Sh.bB x (Rt X [.one (.int .i64)] K w) w.here):Ct Pg F.bB [.int .u64 x] w X [.one (.int .i64)] K:=
 cod (Sh.bB x) 14 [] [] [] f169 h
def Sh.ez(hi:Int)(lo:Int)(y:Int)(R:Value→TW→Prop)(w:TW):Prop:=
Jn [] (λJ0=>
cond ((y:Int) == 0) (
False) (
J0 w)) fun  w1=>
Jn [] (λJ1=>
cond (decide ((y:Int)≤hi)) (
False) (
J1 w1)) fun  w2=>
cond ((hi:Int) == 0) (
eI .u64 lo y λn=>
dY lo y λn1=>
R (.tuple #[.int .u64 n,.int .u64 n1]) w2.drew) (
cl Pg F.bH [.int .u64 y] w2 [.one (.int .i64)] λ(r:Int) w3=>
bnd (wu (r)) λn2=>
ju .u64 y n2 λn3=>
gc .u64 n3 32 λn4=>
bnd (bh .and .u64 n3 4294967295) λn5=>
ju .u64 hi n2 λn6=>
bnd (wu (64-n2)) λn7=>
gc .u64 lo n7 λn8=>
bnd (bh .or .u64 n6 n8) λn9=>
ju .u64 lo n2 λn10=>
gc .u64 n10 32 λn11=>
bnd (bh .and .u64 n10 4294967295) λn12=>
eI .u64 n9 n4 λn13=>
bnd (wu (n13*n4)) λn14=>
bnd (wu (n9-n14)) λn15=>
Jn [.int .u64] (λJ2=>
Lp [.int .u64,.int .u64] (λ(q1:Int)(rhat:Int) w4 C0=>
Jn [.bool] (λJ3=>
cond (decide ((q1:Int)≥4294967296)) (
J3 true w4) (
bnd (wu (q1*n5)) λn16=>
bnd (wu (4294967296*rhat)) λn17=>
bnd (wu (n17+n11)) λn18=>
J3 (decide ((n16:Int)>n18)) w4)) λ(x:Bool) w5=>
cond x (
bnd (wu (q1-1)) λn19=>
bnd (wu (rhat+n4)) λn20=>
cond (decide ((n20:Int)≥4294967296)) (
J2 n19 w5) (
C0 n19 n20 w5)) (
J2 q1 w5)) n13 n15 w3) λ(q11:Int) w6=>
bnd (wu (n9*4294967296)) λn21=>
bnd (wu (n21+n11)) λn22=>
bnd (wu (q11*n3)) λn23=>
bnd (wu (n22-n23)) λn24=>
eI .u64 n24 n4 λn25=>
bnd (wu (n25*n4)) λn26=>
bnd (wu (n24-n26)) λn27=>
Jn [.int .u64] (λJ4=>
Lp [.int .u64,.int .u64] (λ(rhat1:Int)(q0:Int) w7 C1=>
Jn [.bool] (λJ5=>
cond (decide ((q0:Int)≥4294967296)) (
J5 true w7) (
bnd (wu (q0*n5)) λn28=>
bnd (wu (4294967296*rhat1)) λn29=>
bnd (wu (n29+n12)) λn30=>
J5 (decide ((n28:Int)>n30)) w7)) λ(x1:Bool) w8=>
cond x1 (
bnd (wu (q0-1)) λn31=>
bnd (wu (rhat1+n4)) λn32=>
cond (decide ((n32:Int)≥4294967296)) (
J4 n31 w8) (
C1 n32 n31 w8)) (
J4 q0 w8)) n27 n25 w6) λ(q01:Int) w9=>
bnd (wu (q11*4294967296)) λn33=>
bnd (wu (n33+q01)) λn34=>
bnd (wu (n24*4294967296)) λn35=>
bnd (wu (n35+n12)) λn36=>
bnd (wu (q01*n3)) λn37=>
bnd (wu (n36-n37)) λn38=>
gc .u64 n38 n2 λn39=>
R (.tuple #[.int .u64 n34,.int .u64 n39]) w9)
theorem Ct.ez{hi:Int}{lo:Int}{K:KT [.one (.int .u64),.one (.int .u64)]}(h:Sh.ez hi lo y (Rt X [.one (.int .u64),.one (.int .u64)] K w) w.here):Ct Pg F.ez [.int .u64 hi,.int .u64 lo,.int .u64 y] w X [.one (.int .u64),.one (.int .u64)] K:=
 cod (Sh.ez hi lo y) 135 [] [] [(1,2,[]),(1,4,[]),(2,0,[(15,.one (.int .u64))]),(3,17,[(15,.one (.int .u64)),(16,.one (.int .u64))]),(0,17,[(78,.one .bool)]),(2,2,[(18,.one (.int .u64))]),(3,24,[(16,.one (.int .u64)),(18,.one (.int .u64))]),(0,24,[(113,.one .bool)])] f181 h
def Sh.aJ(x:Int)(y:Int)(R:Value→TW→Prop)(w:TW):Prop:=
bnd (bh .and .u64 x 4294967295) λn=>
gc .u64 x 32 λn1=>
bnd (bh .and .u64 y 4294967295) λn2=>
gc .u64 y 32 λn3=>
bnd (wu (n*n2)) λn4=>
bnd (wu (n1*n2)) λn5=>
gc .u64 n4 32 λn6=>
bnd (wu (n5+n6)) λn7=>
bnd (bh .and .u64 n7 4294967295) λn8=>
gc .u64 n7 32 λn9=>
bnd (wu (n*n3)) λn10=>
bnd (wu (n8+n10)) λn11=>
bnd (wu (n1*n3)) λn12=>
bnd (wu (n12+n9)) λn13=>
gc .u64 n11 32 λn14=>
bnd (wu (n13+n14)) λn15=>
bnd (wu (x*y)) λn16=>
R (.tuple #[.int .u64 n15,.int .u64 n16]) w
theorem Ct.aJ{K:KT [.one (.int .u64),.one (.int .u64)]}(h:Sh.aJ x y (Rt X [.one (.int .u64),.one (.int .u64)] K w) w.here):Ct Pg F.aJ [.int .u64 x,.int .u64 y] w X [.one (.int .u64),.one (.int .u64)] K:=
 cod (Sh.aJ x y) 51 [] [] [] f184 h
def Sh.fc(x:Int)(R:Value→TW→Prop)(w:TW):Prop:=
gc .u64 x 1 λn=>
bnd (bh .and .u64 n 6148914691236517205) λn1=>
bnd (bh .and .u64 x 6148914691236517205) λn2=>
ju .u64 n2 1 λn3=>
bnd (bh .or .u64 n1 n3) λn4=>
gc .u64 n4 2 λn5=>
bnd (bh .and .u64 n5 3689348814741910323) λn6=>
bnd (bh .and .u64 n4 3689348814741910323) λn7=>
ju .u64 n7 2 λn8=>
bnd (bh .or .u64 n6 n8) λn9=>
gc .u64 n9 4 λn10=>
bnd (bh .and .u64 n10 1085102592571150095) λn11=>
bnd (bh .and .u64 n9 1085102592571150095) λn12=>
ju .u64 n12 4 λn13=>
bnd (bh .or .u64 n11 n13) λn14=>
cl Pg F.cq [.int .u64 n14] w [.one (.int .u64)] λ(r:Int) w1=>
R (.int .u64 r) w1
theorem Ct.fc{K:KT [.one (.int .u64)]}(h:Sh.fc x (Rt X [.one (.int .u64)] K w) w.here):Ct Pg F.fc [.int .u64 x] w X [.one (.int .u64)] K:=
 cod (Sh.fc x) 26 [] [] [] f275 h
def Sh.cq(x:Int)(R:Value→TW→Prop)(w:TW):Prop:=
gc .u64 x 8 λn=>
bnd (bh .and .u64 n 71777214294589695) λn1=>
bnd (bh .and .u64 x 71777214294589695) λn2=>
ju .u64 n2 8 λn3=>
bnd (bh .or .u64 n1 n3) λn4=>
gc .u64 n4 16 λn5=>
bnd (bh .and .u64 n5 281470681808895) λn6=>
bnd (bh .and .u64 n4 281470681808895) λn7=>
ju .u64 n7 16 λn8=>
bnd (bh .or .u64 n6 n8) λn9=>
gc .u64 n9 32 λn10=>
ju .u64 n9 32 λn11=>
bnd (bh .or .u64 n10 n11) λn12=>
R (.int .u64 n12) w
theorem Ct.cq{K:KT [.one (.int .u64)]}(h:Sh.cq x (Rt X [.one (.int .u64)] K w) w.here):Ct Pg F.cq [.int .u64 x] w X [.one (.int .u64)] K:=
 cod (Sh.cq x) 22 [] [] [] f278 h
end
section
set_option maxRecDepth 100000
open Go.Proofs.Tryz
variable {m:Option Addr} {a b:Sl} {w:TW} {X:Nat→Prop} {n:Int}
def Sh.jF(m:Option Addr)(a:Sl)(b:Sl)(R:Value→TW→Prop)(w:TW):Prop:=
cl Pg F.gU [.pointer m,a.v,b.v] w [.one .slice,.one .bool] λ(s:Sl)(ok:Bool) w1=>
cond (!ok) (
R (.tuple #[.slice none 0 0,.bool false]) w1) (
cl Pg F.iF [s.v] w1 [.one .slice] λ(s1:Sl) w2=>
R (.tuple #[s1.v,.bool true]) w2)
theorem Ct.jF{K:KT [.one .slice,.one .bool]}(h:Sh.jF m a b (Rt X [.one .slice,.one .bool] K w) w.here):Ct Pg F.jF [.pointer m,a.v,b.v] w X [.one .slice,.one .bool] K:=
 cod (Sh.jF m a b) 21 [] [] [] f189 h
def Sh.gU(m:Option Addr)(a:Sl)(b:Sl)(R:Value→TW→Prop)(w:TW):Prop:=
nwb w [a.v] T.ji λb1 w1=>
nwb w1 [b.v] T.ji λb2 w2=>
ldc (.slice) w2 ⟨b1,0,none⟩ λ(v:Sl)=>
ldc (.slice) w2 ⟨b2,0,none⟩ λ(v1:Sl)=>
cl Pg F.jE [.int .i64 (v.n:Int),.int .i64 (v1.n:Int)] w2 [.one .bool] λ(ok:Bool) w3=>
cond (!ok) (
R (.tuple #[.slice none 0 0,.bool false]) w3) (
ldc (.slice) w3 ⟨b1,0,none⟩ λ(v2:Sl)=>
ldc (.slice) w3 ⟨b2,0,none⟩ λ(v3:Sl)=>
bnd (wi ((v2.n:Int)+(v3.n:Int))) λn=>
bnd (wi (n-1)) λn1=>
ldc (.slice) w3 ⟨b1,0,none⟩ λ(v4:Sl)=>
ldc (.slice) w3 ⟨b2,0,none⟩ λ(v5:Sl)=>
bnd (wi ((v4.n:Int)+(v5.n:Int))) λn2=>
cl Pg F.gN [.pointer m,.int .i64 n1,.int .i64 n2,.func (.func F.fr) #[] #[.pointer (some ⟨b1,0,none⟩),.pointer (some ⟨b2,0,none⟩)]] w3 [.one .slice,.one .bool] λ(s:Sl)(ok1:Bool) w4=>
R (.tuple #[s.v,.bool ok1]) w4)
theorem Ct.gU{K:KT [.one .slice,.one .bool]}(h:Sh.gU m a b (Rt X [.one .slice,.one .bool] K w) w.here):Ct Pg F.gU [.pointer m,a.v,b.v] w X [.one .slice,.one .bool] K:=
 cod (Sh.gU m a b) 30 [] [] [] f212 h
def Sh.iF(l:Sl)(R:Value→TW→Prop)(w:TW):Prop:=
bnd (wi ((l.n:Int)+4)) λn=>
mks w n n T.ao 8 [.int .u64 0] λs w1=>
Jn [] (λJ0=>
Lp [.int .i64] (λ(x:Int) w2 C0=>
cond (decide ((x:Int)<(l.n:Int))) (
ixa l x 3 λa=>
ldc (.int .u64) w2 (a.add 0) λ(v:Int)=>
ldc (.int .u64) w2 (a.add 1) λ(v1:Int)=>
ldc (.int .u64) w2 (a.add 2) λ(v2:Int)=>
nwb w2 [.int .u64 0,.int .u64 0,.int .u64 0] T.iy λb w3=>
stc w3 ⟨b,0,none⟩ (.int .u64 v) λw4=>
stc w4 (Addr.add ⟨b,0,none⟩ 1) (.int .u64 v1) λw5=>
stc w5 (Addr.add ⟨b,0,none⟩ 2) (.int .u64 v2) λw6=>
Jn [] (λJ1=>
Lp [.int .u64,.int .i64] (λ(c:Int)(j:Int) w7 C1=>
Jn [.bool] (λJ2=>
cond (decide ((j:Int)<3)) (
J2 true w7) (
J2 (decide ((c:Int)>0)) w7)) λ(x1:Bool) w8=>
cond x1 (
Jn [.int .u64] (λJ3=>
cond (decide ((j:Int)<3)) (
ixp ⟨b,0,none⟩ j 3 1 λa1=>
ldc (.int .u64) w8 a1 λ(v3:Int)=>
J3 v3 w8) (
J3 0 w8)) λ(x2:Int) w9=>
bnd (wi (x+j)) λn1=>
bnd (wi (x+j)) λn2=>
ixa s n2 1 λa2=>
ldc (.int .u64) w9 a2 λ(v4:Int)=>
gf v4 x2 c λs1 c1=>
ixa s n1 1 λa3=>
stc w9 a3 (.int .u64 s1) λw10=>
bnd (wi (j+1)) λn3=>
C1 c1 n3 w10) (
J1 w8)) 0 0 w6) fun  w11=>
bnd (wi (x+1)) λn4=>
C0 n4 w11) (
J0 w2)) 0 w1) fun  w12=>
cl Pg F.aW [s.v] w12 [.one .slice] λ(s2:Sl) w13=>
R (s2.v) w13
theorem Ct.iF{l:Sl}{K:KT [.one .slice]}(h:Sh.iF l (Rt X [.one .slice] K w) w.here):Ct Pg F.iF [l.v] w X [.one .slice] K:=
 cod (Sh.iF l) 53 [] [] [(2,0,[]),(3,3,[(15,.one (.int .i64))]),(2,2,[]),(3,7,[(6,.one (.int .u64)),(7,.one (.int .i64))]),(0,7,[(25,.one .bool)]),(1,11,[(8,.one (.int .u64))])] f222 h
def Sh.jE(n:Int)(m:Int)(R:Value→TW→Prop)(w:TW):Prop:=
Jn [.bool] (λJ0=>
cond (decide ((n:Int)>0)) (
cond (decide ((m:Int)>0)) (
cond (decide ((n:Int)≤1048576)) (
bnd (wi (1048576-n)) λn1=>
J0 (decide ((m:Int)≤n1)) w) (
J0 false w)) (
J0 false w)) (
J0 false w)) λ(x:Bool) w1=>
R (.bool x) w1
theorem Ct.jE{m:Int}{K:KT [.one .bool]}(h:Sh.jE n m (Rt X [.one .bool] K w) w.here):Ct Pg F.jE [.int .i64 n,.int .i64 m] w X [.one .bool] K:=
 cod (Sh.jE n m) 21 [] [] [(0,1,[(4,.one .bool)])] f236 h
def Sh.gN(m:Option Addr)(n:Int)(size:Int)(one:Value)(R:Value→TW→Prop)(w:TW):Prop:=
cl Pg F.iE [] w [.one .ptr] λ(p:Option Addr) w1=>
nwb w1 [.slice none 0 0,.slice none 0 0,.slice none 0 0] T.ux λb w2=>
Jn [] (λJ0=>
Lp [.int .i64] (λ(x:Int) w3 C0=>
cond (decide ((x:Int)<3)) (
nck p λa=>
ixp a x 3 1 λa1=>
ldc (.int .u64) w3.drew a1 λ(v:Int)=>
cl Pg F.iR [.int .i64 size] w3.drew [.one (.int .i64)] λ(r:Int) w4=>
hld w4 [(a1,.int .u64 v)] <|
cl Pg F.jK [.pointer m,.int .u64 v,.int .i64 r] w4 [.one .ptr,.one (.int .i64)] λ(p1:Option Addr)(r1:Int) w5=>
cond ((r1:Int) != 0) (
R (.tuple #[.slice none 0 0,.bool false]) w5) (
clv Pg one [.pointer p1] w5 [.one .slice,.one .bool] λ(s:Sl)(ok:Bool) w6=>
cond (!ok) (
R (.tuple #[.slice none 0 0,.bool false]) w6) (
ixp ⟨b,0,none⟩ x 3 1 λa2=>
stc w6 a2 s.v λw7=>
bnd (wi (x+1)) λn1=>
C0 n1 w7))) (
J0 w3)) 0 w2) fun  w8=>
cl Pg F.iR [.int .i64 size] w8 [.one (.int .i64)] λ(r2:Int) w9=>
bnd (wu (r2)) λn2=>
ju .i64 6 n2 λn3=>
cl Pg F.aO [.pointer m,.int .i64 n3] w9 [.one (.int .i64)] λ(_:Int) w10=>
mks w10 n n T.iy 24 [.int .u64 0,.int .u64 0,.int .u64 0] λs1 w11=>
Jn [] (λJ1=>
Lp [.int .i64] (λ(x1:Int) w12 C1=>
cond (decide ((x1:Int)<(s1.n:Int))) (
ixp ⟨b,0,none⟩ 0 3 1 λa3=>
ldc (.slice) w12.drew a3 λ(v1:Sl)=>
ixa v1 x1 1 λa4=>
ldc (.int .u64) w12.drew a4 λ(v2:Int)=>
ixp ⟨b,0,none⟩ 1 3 1 λa5=>
ldc (.slice) w12.drew a5 λ(v3:Sl)=>
ixa v3 x1 1 λa6=>
ldc (.int .u64) w12.drew a6 λ(v4:Int)=>
ixp ⟨b,0,none⟩ 2 3 1 λa7=>
ldc (.slice) w12.drew a7 λ(v5:Sl)=>
ixa v5 x1 1 λa8=>
ldc (.int .u64) w12.drew a8 λ(v6:Int)=>
cl Pg F.fb [.pointer p,.int .u64 v2,.int .u64 v4,.int .u64 v6] w12.drew [.agg [.int .u64,.int .u64,.int .u64]] λ(r4:Int)(r5:Int)(r6:Int) w13=>
hld w13 [(a7,v5.v),(a5,v3.v),(a3,v1.v)] <|
ixa s1 x1 3 λa9=>
stc w13 a9 (.int .u64 r4) λw14=>
stc w14 (a9.add 1) (.int .u64 r5) λw15=>
stc w15 (a9.add 2) (.int .u64 r6) λw16=>
bnd (wi (x1+1)) λn4=>
C1 n4 w16) (
J1 w12)) 0 w11) fun  w17=>
R (.tuple #[s1.v,.bool true]) w17
theorem Ct.gN{size:Int}{one:Value}{K:KT [.one .slice,.one .bool]}(h:Sh.gN m n size one (Rt X [.one .slice,.one .bool] K w) w.here):Ct Pg F.gN [.pointer m,.int .i64 n,.int .i64 size,one] w X [.one .slice,.one .bool] K:=
 cod (Sh.gN m n size one) 85 [] [] [(2,0,[]),(3,4,[(20,.one (.int .i64))]),(2,2,[]),(3,17,[(60,.one (.int .i64))])] f237 h
def Sh.fr(t:Option Addr)(cap:Addr)(cap1:Addr)(R:Value→TW→Prop)(w:TW):Prop:=
ldc (.slice) w cap λ(v:Sl)=>
ldc (.slice) w cap1 λ(v1:Sl)=>
cl Pg F.fB [.pointer t,v.v,v1.v] w [.one .slice,.one .bool] λ(s:Sl)(ok:Bool) w1=>
R (.tuple #[s.v,.bool ok]) w1
theorem Ct.fr{t:Option Addr}{cap:Addr}{cap1:Addr}{K:KT [.one .slice,.one .bool]}(h:Sh.fr t cap cap1 (Rt X [.one .slice,.one .bool] K w) w.here):Ct Pg F.fr [.pointer t,.pointer (some cap),.pointer (some cap1)] w X [.one .slice,.one .bool] K:=
 cod (Sh.fr t cap cap1) 12 [] [] [] f238 h
def Sh.iE(R:Value→TW→Prop)(w:TW):Prop:=
nwb w [.int .u64 0,.int .u64 0,.int .u64 0,.pointer none,.pointer none,.pointer none,.int .u64 0,.int .u64 0,.int .u64 0,.int .u64 0] T.aab λb w1=>
cl Pg F.gz [] w1 [.agg [.int .u64,.int .i64,.int .u64,.int .u64,.int .i64,.int .u64,.int .u64,.int .i64,.int .u64]] λ(r:Int)(r1:Int)(r2:Int)(r3:Int)(r4:Int)(r5:Int)(r6:Int)(r7:Int)(r8:Int) w2=>
Jn [] (λJ0=>
Lp [.int .i64] (λ(x:Int) w3 C0=>
cond (decide ((x:Int)<3)) (
inr x 3 (ixq (.int .u64) [.int .u64 r,.int .i64 r1,.int .u64 r2,.int .u64 r3,.int .i64 r4,.int .u64 r5,.int .u64 r6,.int .i64 r7,.int .u64 r8] ((Int.toNat x*3)+0) λ(v:Int)=>
ixq (.int .i64) [.int .u64 r,.int .i64 r1,.int .u64 r2,.int .u64 r3,.int .i64 r4,.int .u64 r5,.int .u64 r6,.int .i64 r7,.int .u64 r8] ((Int.toNat x*3)+1) λ(_:Int)=>
ixq (.int .u64) [.int .u64 r,.int .i64 r1,.int .u64 r2,.int .u64 r3,.int .i64 r4,.int .u64 r5,.int .u64 r6,.int .i64 r7,.int .u64 r8] ((Int.toNat x*3)+2) λ(_:Int)=>
nwv w3 λw4=>
nwv w4 λw5=>
ixp ⟨b,0,none⟩ x 3 1 λa=>
stc w5.drew a (.int .u64 v) λw6=>
cl Pg F.im [.int .u64 v] w6.drew [.one .ptr,.one (.int .i64)] λ(p:Option Addr)(_:Int) w7=>
ixp (Addr.add ⟨b,0,none⟩ 3) x 3 1 λa1=>
stc w7 a1 (.pointer p) λw8=>
bnd (wi (x+1)) λn=>
C0 n w8)) (
J0 w3)) 0 w2) fun  w9=>
ixp (Addr.add ⟨b,0,none⟩ 3) 1 3 1 λa2=>
ldc (.ptr) w9.drew a2 λ(v3:Option Addr)=>
ixp ⟨b,0,none⟩ 0 3 1 λa3=>
ldc (.int .u64) w9.drew a3 λ(v4:Int)=>
cl Pg F.d9 [.pointer v3,.int .u64 v4] w9.drew [.one (.int .u64),.one .bool] λ(r10:Int)(_:Bool) w10=>
stc w10 (Addr.add ⟨b,0,none⟩ 6) (.int .u64 r10) λw11=>
ixp (Addr.add ⟨b,0,none⟩ 3) 2 3 1 λa4=>
ldc (.ptr) w11.drew a4 λ(v5:Option Addr)=>
ixp (Addr.add ⟨b,0,none⟩ 3) 2 3 1 λa5=>
ldc (.ptr) w11.drew a5 λ(v6:Option Addr)=>
ixp ⟨b,0,none⟩ 0 3 1 λa6=>
ldc (.int .u64) w11.drew a6 λ(v7:Int)=>
ixp ⟨b,0,none⟩ 1 3 1 λa7=>
ldc (.int .u64) w11.drew a7 λ(v8:Int)=>
cl Pg F.aV [.pointer v6,.int .u64 v7,.int .u64 v8] w11.drew [.one (.int .u64)] λ(r11:Int) w12=>
hld w12 [(a4,.pointer v5)] <|
cl Pg F.d9 [.pointer v5,.int .u64 r11] w12 [.one (.int .u64),.one .bool] λ(r12:Int)(_:Bool) w13=>
stc w13 (Addr.add ⟨b,0,none⟩ 7) (.int .u64 r12) λw14=>
ixp ⟨b,0,none⟩ 0 3 1 λa8=>
ldc (.int .u64) w14.drew a8 λ(v9:Int)=>
ixp ⟨b,0,none⟩ 1 3 1 λa9=>
ldc (.int .u64) w14.drew a9 λ(v10:Int)=>
cl Pg F.aJ [.int .u64 v9,.int .u64 v10] w14.drew [.one (.int .u64),.one (.int .u64)] λ(r13:Int)(r14:Int) w15=>
stc w15 (Addr.add ⟨b,0,none⟩ 8) (.int .u64 r13) λw16=>
stc w16 (Addr.add ⟨b,0,none⟩ 9) (.int .u64 r14) λw17=>
R (.pointer (some ⟨b,0,none⟩)) w17
theorem Ct.iE{K:KT [.one .ptr]}(h:Sh.iE (Rt X [.one .ptr] K w) w.here):Ct Pg F.iE [] w X [.one .ptr] K:=
 cod Sh.iE 96 [(3,96)] [(96,3)] [(2,0,[]),(3,3,[(7,.one (.int .i64))])] f253 h
def Sh.iR(n:Int)(R:Value→TW→Prop)(w:TW):Prop:=
bnd (wi (n-1)) λn1=>
bnd (wu (n1)) λn2=>
cl Pg F.fe [.int .u64 n2] w [.one (.int .i64)] λ(r:Int) w1=>
R (.int .i64 r) w1
theorem Ct.iR{K:KT [.one (.int .i64)]}(h:Sh.iR n (Rt X [.one (.int .i64)] K w) w.here):Ct Pg F.iR [.int .i64 n] w X [.one (.int .i64)] K:=
 cod (Sh.iR n) 7 [] [] [] f255 h
def Sh.fb(c:Option Addr)(r0:Int)(r1:Int)(r2:Int)(R:Value→TW→Prop)(w:TW):Prop:=
nwv w λw1=>
nck c λa=>
ixp (a.add 3) 1 3 1 λa1=>
ldc (.ptr) w1.drew a1 λ(v:Option Addr)=>
nck c λa2=>
ixp (a2.add 3) 1 3 1 λa3=>
ldc (.ptr) w1.drew a3 λ(v1:Option Addr)=>
nck c λa4=>
ldc (.int .u64) w1.drew (a4.add 6) λ(v2:Int)=>
cl Pg F.eP [.pointer v1,.int .u64 r1,.int .u64 r0] w1.drew [.one (.int .u64)] λ(r:Int) w2=>
hld w2 [((a4.add 6),.int .u64 v2),(a1,.pointer v)] <|
cl Pg F.aV [.pointer v,.int .u64 r,.int .u64 v2] w2 [.one (.int .u64)] λ(r3:Int) w3=>
nck c λa5=>
ixp a5 0 3 1 λa6=>
ldc (.int .u64) w3 a6 λ(v3:Int)=>
cl Pg F.aJ [.int .u64 v3,.int .u64 r3] w3 [.one (.int .u64),.one (.int .u64)] λ(r4:Int)(r5:Int) w4=>
gf r5 r0 0 λs c1=>
bnd (wu (r4+c1)) λn=>
nck c λa7=>
ixp (a7.add 3) 2 3 1 λa8=>
ldc (.ptr) w4.drew a8 λ(v4:Option Addr)=>
nck c λa9=>
ixp (a9.add 3) 2 3 1 λa10=>
ldc (.ptr) w4.drew a10 λ(v5:Option Addr)=>
nck c λa11=>
ixp (a11.add 3) 2 3 1 λa12=>
ldc (.ptr) w4.drew a12 λ(v6:Option Addr)=>
cl Pg F.aV [.pointer v6,.int .u64 n,.int .u64 9223372036854775808] w4.drew [.one (.int .u64)] λ(r6:Int) w5=>
hld w5 [(a10,.pointer v5),(a8,.pointer v4)] <|
cl Pg F.aV [.pointer v5,.int .u64 r6,.int .u64 2] w5 [.one (.int .u64)] λ(r7:Int) w6=>
hld w6 [(a8,.pointer v4)] <|
cl Pg F.dt [.pointer v4,.int .u64 r7,.int .u64 s] w6 [.one (.int .u64)] λ(r8:Int) w7=>
nck c λa13=>
ixp (a13.add 3) 2 3 1 λa14=>
ldc (.ptr) w7.drew a14 λ(v7:Option Addr)=>
nck c λa15=>
ixp (a15.add 3) 2 3 1 λa16=>
ldc (.ptr) w7.drew a16 λ(v8:Option Addr)=>
nck c λa17=>
ldc (.int .u64) w7.drew (a17.add 7) λ(v9:Int)=>
cl Pg F.eP [.pointer v8,.int .u64 r2,.int .u64 r8] w7.drew [.one (.int .u64)] λ(r9:Int) w8=>
hld w8 [((a17.add 7),.int .u64 v9),(a14,.pointer v7)] <|
cl Pg F.aV [.pointer v7,.int .u64 r9,.int .u64 v9] w8 [.one (.int .u64)] λ(r10:Int) w9=>
nck c λa18=>
ldc (.int .u64) w9 (a18.add 9) λ(v10:Int)=>
cl Pg F.aJ [.int .u64 v10,.int .u64 r10] w9 [.one (.int .u64),.one (.int .u64)] λ(r11:Int)(r12:Int) w10=>
nck c λa19=>
ldc (.int .u64) w10 (a19.add 8) λ(v11:Int)=>
cl Pg F.aJ [.int .u64 v11,.int .u64 r10] w10 [.one (.int .u64),.one (.int .u64)] λ(r13:Int)(r14:Int) w11=>
nwv w11 λw12=>
gf r12 s 0 λs1 c2=>
nwv w12 λw13=>
gf r11 r14 0 λs2 c3=>
gf s2 n c2 λs3 c4=>
nwv w13 λw14=>
bnd (wu (r13+c3)) λn1=>
bnd (wu (n1+c4)) λn2=>
nwv w14 λw15=>
nwv w15 λw16=>
R (.agg #[.int .u64 s1,.int .u64 s3,.int .u64 n2]) w16
theorem Ct.fb{c:Option Addr}{r0:Int}{r1:Int}{r2:Int}{K:KT [.agg [.int .u64,.int .u64,.int .u64]]}(h:Sh.fb c r0 r1 r2 (Rt X [.agg [.int .u64,.int .u64,.int .u64]] K w) w.here):Ct Pg F.fb [.pointer c,.int .u64 r0,.int .u64 r1,.int .u64 r2] w X [.agg [.int .u64,.int .u64,.int .u64]] K:=
 cod (Sh.fb c r0 r1 r2) 143 [(8,143),(19,146)] [(143,3),(146,3)] [] f256 h
end
section
set_option maxRecDepth 100000
open Go.Proofs.Tryz
variable {e0:Option Addr} {a b:Sl} {w:TW} {X:Nat→Prop}
def Sh.aP(e0:Option Addr)(a:Sl)(b:Sl)(R:Value→TW→Prop)(w:TW):Prop:=
cl Pg F.aS [a.v] w [.one (.int .i64)] λ(r:Int) w1=>
cl Pg F.aS [b.v] w1 [.one (.int .i64)] λ(r1:Int) w2=>
cond ((r1:Int) == 0) (
R (.tuple #[.slice none 0 0,.slice none 0 0,.int .i64 2]) w2) (
Jn [.bool] (λJ0=>
cond (decide ((r:Int)<r1)) (
J0 true w2) (
nck e0 λa1=>
ldc (.ptr) w2 a1 λ(v:Option Addr)=>
nck v λa2=>
ldc (.ptr) w2 a2 λ(v1:Option Addr)=>
nck v1 λa3=>
ldc (.ptr) w2 a3 λ(v2:Option Addr)=>
nck v2 λa4=>
ldc (.ptr) w2 a4 λ(v3:Option Addr)=>
nck v3 λa5=>
ldc (.ptr) w2 a5 λ(v4:Option Addr)=>
nck v4 λa6=>
ldc (.ptr) w2 a6 λ(v5:Option Addr)=>
nck v5 λa7=>
ldc (.ptr) w2 a7 λ(v6:Option Addr)=>
nck v6 λa8=>
ldc (.int .i64) w2 ((a8.add 3).add 3) λ(v7:Int)=>
cond (decide ((r1:Int)<v7)) (
J0 true w2) (
bnd (wi (r-r1)) λn=>
bnd (wi (n+1)) λn1=>
nck e0 λa9=>
ldc (.ptr) w2 a9 λ(v8:Option Addr)=>
nck v8 λa10=>
ldc (.ptr) w2 a10 λ(v9:Option Addr)=>
nck v9 λa11=>
ldc (.ptr) w2 a11 λ(v10:Option Addr)=>
nck v10 λa12=>
ldc (.ptr) w2 a12 λ(v11:Option Addr)=>
nck v11 λa13=>
ldc (.ptr) w2 a13 λ(v12:Option Addr)=>
nck v12 λa14=>
ldc (.ptr) w2 a14 λ(v13:Option Addr)=>
nck v13 λa15=>
ldc (.ptr) w2 a15 λ(v14:Option Addr)=>
nck v14 λa16=>
ldc (.int .i64) w2 ((a16.add 3).add 3) λ(v15:Int)=>
J0 (decide ((n1:Int)<v15)) w2))) λ(x:Bool) w3=>
cond x (
nck e0 λa17=>
ldc (.ptr) w3 a17 λ(v16:Option Addr)=>
nck v16 λa18=>
ldc (.ptr) w3 a18 λ(v17:Option Addr)=>
cl Pg F.dW [.pointer v17,a.v,b.v] w3 [.one .slice,.one .slice,.one (.int .i64)] λ(s:Sl)(s1:Sl)(r2:Int) w4=>
R (.tuple #[s.v,s1.v,.int .i64 r2]) w4) (
Jn [.bool] (λJ1=>
nck e0 λa19=>
ldc (.ptr) w3 a19 λ(v18:Option Addr)=>
nck v18 λa20=>
ldc (.ptr) w3 a20 λ(v19:Option Addr)=>
nck v19 λa21=>
ldc (.ptr) w3 a21 λ(v20:Option Addr)=>
nck v20 λa22=>
ldc (.ptr) w3 a22 λ(v21:Option Addr)=>
nck v21 λa23=>
ldc (.ptr) w3 a23 λ(v22:Option Addr)=>
nck v22 λa24=>
ldc (.ptr) w3 a24 λ(v23:Option Addr)=>
nck v23 λa25=>
ldc (.ptr) w3 a25 λ(v24:Option Addr)=>
nck v24 λa26=>
ldc (.int .i64) w3 ((a26.add 3).add 4) λ(v25:Int)=>
cond (decide ((r1:Int)≥v25)) (
J1 (decide ((r:Int)≤16384)) w3) (
J1 false w3)) λ(x1:Bool) w5=>
cond x1 (
cl Pg F.pB [.pointer e0,a.v,b.v] w5 [.one .slice,.one .slice] λ(s2:Sl)(s3:Sl) w6=>
R (.tuple #[s2.v,s3.v,.int .i64 0]) w6) (
cl Pg F.pC [.pointer e0,a.v,b.v] w5 [.one .slice,.one .slice,.one (.int .i64)] λ(s4:Sl)(s5:Sl)(r3:Int) w7=>
R (.tuple #[s4.v,s5.v,.int .i64 r3]) w7)))
theorem Ct.aP{K:KT [.one .slice,.one .slice,.one (.int .i64)]}(h:Sh.aP e0 a b (Rt X [.one .slice,.one .slice,.one (.int .i64)] K w) w.here):Ct Pg F.aP [.pointer e0,a.v,b.v] w X [.one .slice,.one .slice,.one (.int .i64)] K:=
 cod (Sh.aP e0 a b) 147 [] [] [(0,4,[(18,.one .bool)]),(0,6,[(98,.one .bool)])] f102 h
def Sh.dX(e0:Option Addr)(a:Sl)(b:Sl)(R:Value→TW→Prop)(w:TW):Prop:=
cl Pg F.aP [.pointer e0,a.v,b.v] w [.one .slice,.one .slice,.one (.int .i64)] λ(s:Sl)(s1:Sl)(r:Int) w1=>
cond ((r:Int) != 0) (
R (.tuple #[.slice none 0 0,.int .i64 r]) w1) (
cl Pg F.az [s1.v] w1 [.one .bool] λ(ok:Bool) w2=>
cond (!ok) (
R (.tuple #[.slice none 0 0,.int .i64 5]) w2) (
R (.tuple #[s.v,.int .i64 0]) w2))
theorem Ct.dX{K:KT [.one .slice,.one (.int .i64)]}(h:Sh.dX e0 a b (Rt X [.one .slice,.one (.int .i64)] K w) w.here):Ct Pg F.dX [.pointer e0,a.v,b.v] w X [.one .slice,.one (.int .i64)] K:=
 cod (Sh.dX e0 a b) 26 [] [] [] f103 h
def Sh.kD(t:HL I11)(R:Value→TW→Prop)(w:TW):Prop:=
nwv w λw1=>
cl Pg F.jx [.agg (aT I11 t).toArray] w1 [.one .ptr] λ(p:Option Addr) w2=>
nwb w2 [.pointer p] T.wN λb w3=>
R (.pointer (some ⟨b,0,none⟩)) w3
theorem Ct.kD{t:HL I11}{K:KT [.one .ptr]}(h:Sh.kD t (Rt X [.one .ptr] K w) w.here):Ct Pg F.kD [.agg (aT I11 t).toArray] w X [.one .ptr] K:=
 cod (Sh.kD t) 7 [(1,7)] [(7,11)] [] f267 h
end
section
set_option maxRecDepth 100000
open Go.Proofs.Tryz
variable {w:TW} {X:Nat→Prop}
def Sh.dW(e0:Option Addr)(a:Sl)(b:Sl)(R:Value→TW→Prop)(w:TW):Prop:=
cl Pg F.aS [a.v] w [.one (.int .i64)] λ(r:Int) w1=>
cl Pg F.aS [b.v] w1 [.one (.int .i64)] λ(r1:Int) w2=>
cond ((r1:Int) == 0) (
R (.tuple #[.slice none 0 0,.slice none 0 0,.int .i64 2]) w2) (
cond (decide ((r:Int)<r1)) (
cl Pg F.aW [a.v] w2 [.one .slice] λ(s:Sl) w3=>
R (.tuple #[.slice none 0 0,s.v,.int .i64 0]) w3) (
nck e0 λa1=>
ldc (.ptr) w2 a1 λ(v:Option Addr)=>
nck v λa2=>
ldc (.ptr) w2 a2 λ(v1:Option Addr)=>
nck v1 λa3=>
ldc (.ptr) w2 a3 λ(v2:Option Addr)=>
nck v2 λa4=>
ldc (.ptr) w2 a4 λ(v3:Option Addr)=>
nck v3 λa5=>
ldc (.ptr) w2 a5 λ(v4:Option Addr)=>
nck v4 λa6=>
bnd (wi (r-r1)) λn=>
bnd (wi (n+1)) λn1=>
bnd (wi (r1+1)) λn2=>
bnd (wi (n1*n2)) λn3=>
cl Pg F.aO [.pointer (some a6),.int .i64 n3] w2 [.one (.int .i64)] λ(_:Int) w4=>
cond ((r1:Int) == 1) (
ixa b 0 1 λa7=>
ldc (.int .u64) w4 a7 λ(v5:Int)=>
cl Pg F.dx [a.v,.int .u64 v5] w4 [.one .slice,.one (.int .u64),.one (.int .i64)] λ(s1:Sl)(r3:Int)(_:Int) w5=>
cl Pg F.bZ [.int .u64 r3] w5 [.one .slice] λ(s2:Sl) w6=>
R (.tuple #[s1.v,s2.v,.int .i64 0]) w6) (
bnd (wi (r1-1)) λn4=>
ixa b n4 1 λa8=>
ldc (.int .u64) w4 a8 λ(v6:Int)=>
cl Pg F.bH [.int .u64 v6] w4 [.one (.int .i64)] λ(r5:Int) w7=>
cl Pg F.dT [b.v,.int .i64 r5] w7 [.one .slice] λ(s3:Sl) w8=>
bnd (wi (r+1)) λn5=>
mks w8 n5 n5 T.ao 8 [.int .u64 0] λs4 w9=>
cl Pg F.dT [a.v,.int .i64 r5] w9 [.one .slice] λ(s5:Sl) w10=>
cpy w10 T.ao s4 s5 λ_ w11=>
bnd (wi (r1-1)) λn7=>
ixa s3 n7 1 λa9=>
ldc (.int .u64) w11.drew a9 λ(v7:Int)=>
bnd (wi (r1-2)) λn8=>
ixa s3 n8 1 λa10=>
ldc (.int .u64) w11.drew a10 λ(v8:Int)=>
cl Pg F.fx [.int .u64 v7,.int .u64 v8] w11.drew [.one (.int .u64),.one .bool] λ(r6:Int)(_:Bool) w12=>
bnd (wi (r-r1)) λn9=>
bnd (wi (n9+1)) λn10=>
mks w12 n10 n10 T.ao 8 [.int .u64 0] λs6 w13=>
bnd (wi (r-r1)) λn11=>
Jn [] (λJ0=>
Lp [.int .i64] (λ(j:Int) w14 C0=>
cond (decide ((j:Int)≥0)) (
bnd (wi (j+r1)) λn12=>
bnd (wi (n12+1)) λn13=>
slc s4 j n13 1 λs7=>
cl Pg F.iD [s7.v,s3.v,.int .u64 r6] w14 [.one (.int .u64)] λ(r7:Int) w15=>
ixa s6 j 1 λa11=>
stc w15 a11 (.int .u64 r7) λw16=>
bnd (wi (j-1)) λn14=>
C0 n14 w16) (
J0 w14)) n11 w13) fun  w17=>
cl Pg F.aW [s6.v] w17 [.one .slice] λ(s8:Sl) w18=>
cl Pg F.eR [s4.v,.int .i64 r5] w18 [.one .slice] λ(s9:Sl) w19=>
R (.tuple #[s8.v,s9.v,.int .i64 0]) w19)))
theorem Ct.dW{e0:Option Addr}{a:Sl}{b:Sl}{K:KT [.one .slice,.one .slice,.one (.int .i64)]}(h:Sh.dW e0 a b (Rt X [.one .slice,.one .slice,.one (.int .i64)] K w) w.here):Ct Pg F.dW [.pointer e0,a.v,b.v] w X [.one .slice,.one .slice,.one (.int .i64)] K:=
 cod (Sh.dW e0 a b) 133 [] [] [(2,0,[]),(3,17,[(20,.one (.int .i64))])] f126 h
def Sh.iD(u:Sl)(d:Sl)(v:Int)(R:Value→TW→Prop)(w:TW):Prop:=
ixa u (d.n:Int) 1 λa=>
ldc (.int .u64) w.drew a λ(v1:Int)=>
bnd (wi ((d.n:Int)-1)) λn=>
ixa u n 1 λa1=>
ldc (.int .u64) w.drew a1 λ(v2:Int)=>
bnd (wi ((d.n:Int)-2)) λn1=>
ixa u n1 1 λa2=>
ldc (.int .u64) w.drew a2 λ(v3:Int)=>
bnd (wi ((d.n:Int)-1)) λn2=>
ixa d n2 1 λa3=>
ldc (.int .u64) w.drew a3 λ(v4:Int)=>
bnd (wi ((d.n:Int)-2)) λn3=>
ixa d n3 1 λa4=>
ldc (.int .u64) w.drew a4 λ(v5:Int)=>
cl Pg F.i5 [.int .u64 v1,.int .u64 v2,.int .u64 v3,.int .u64 v4,.int .u64 v5,.int .u64 v] w.drew [.one (.int .u64),.one (.int .u64),.one (.int .u64),.one .bool] λ(r:Int)(_:Int)(_:Int)(ok:Bool) w1=>
Jn [.int .u64] (λJ0=>
cond (!ok) (
J0 18446744073709551615 w1) (
J0 r w1)) λ(q:Int) w2=>
Jn [.int .u64] (λJ1=>
Lp [.int .u64,.int .i64] (λ(c:Int)(i:Int) w3 C0=>
cond (decide ((i:Int)<(d.n:Int))) (
ixa d i 1 λa5=>
ldc (.int .u64) w3 a5 λ(v6:Int)=>
cl Pg F.aJ [.int .u64 q,.int .u64 v6] w3 [.one (.int .u64),.one (.int .u64)] λ(r3:Int)(r4:Int) w4=>
gf r4 c 0 λs c1=>
bnd (wu (r3+c1)) λn4=>
ixa u i 1 λa6=>
ldc (.int .u64) w4 a6 λ(v7:Int)=>
ka v7 s 0 λs1 c2=>
ixa u i 1 λa7=>
stc w4 a7 (.int .u64 s1) λw5=>
bnd (wu (n4+c2)) λn5=>
bnd (wi (i+1)) λn6=>
C0 n5 n6 w5) (
J1 c w3)) 0 0 w2) λ(c3:Int) w6=>
ixa u (d.n:Int) 1 λa8=>
ldc (.int .u64) w6 a8 λ(v8:Int)=>
ka v8 c3 0 λs2 c4=>
ixa u (d.n:Int) 1 λa9=>
stc w6 a9 (.int .u64 s2) λw7=>
Jn [.int .u64] (λJ2=>
Lp [.int .u64,.int .u64] (λ(q1:Int)(k:Int) w8 C1=>
cond ((k:Int) != 0) (
bnd (wu (q1-1)) λn7=>
Jn [.int .u64] (λJ3=>
Lp [.int .u64,.int .i64] (λ(c5:Int)(i1:Int) w9 C2=>
cond (decide ((i1:Int)<(d.n:Int))) (
ixa u i1 1 λa10=>
ldc (.int .u64) w9.drew a10 λ(v9:Int)=>
ixa d i1 1 λa11=>
ldc (.int .u64) w9.drew a11 λ(v10:Int)=>
gf v9 v10 c5 λs3 c6=>
ixa u i1 1 λa12=>
stc w9.drew a12 (.int .u64 s3) λw10=>
bnd (wi (i1+1)) λn8=>
C2 c6 n8 w10) (
J3 c5 w9)) 0 0 w8) λ(c7:Int) w11=>
ixa u (d.n:Int) 1 λa13=>
ldc (.int .u64) w11 a13 λ(v11:Int)=>
gf v11 0 c7 λs4 c8=>
ixa u (d.n:Int) 1 λa14=>
stc w11 a14 (.int .u64 s4) λw12=>
bnd (wu (k-c8)) λn9=>
C1 n7 n9 w12) (
J2 q1 w8)) q c4 w7) λ(q2:Int) w13=>
R (.int .u64 q2) w13
theorem Ct.iD{u:Sl}{d:Sl}{v:Int}{K:KT [.one (.int .u64)]}(h:Sh.iD u d v (Rt X [.one (.int .u64)] K w) w.here):Ct Pg F.iD [u.v,d.v,.int .u64 v] w X [.one (.int .u64)] K:=
 cod (Sh.iD u d v) 147 [] [] [(1,4,[(8,.one (.int .u64))]),(2,0,[(12,.one (.int .u64))]),(3,7,[(12,.one (.int .u64)),(13,.one (.int .i64))]),(2,2,[(8,.one (.int .u64))]),(3,16,[(8,.one (.int .u64)),(18,.one (.int .u64))]),(2,4,[(12,.one (.int .u64))]),(3,20,[(12,.one (.int .u64)),(19,.one (.int .i64))])] f160 h
def Sh.jV(t:HL I11)(R:Value→TW→Prop)(w:TW):Prop:=
nwv w λw1=>
cl Pg F.kB [.agg (aT I11 t).toArray] w1 [.one .ptr] λ(p:Option Addr) w2=>
nwb w2 [.pointer p] T.vc λb w3=>
R (.pointer (some ⟨b,0,none⟩)) w3
theorem Ct.jV{t:HL I11}{K:KT [.one .ptr]}(h:Sh.jV t (Rt X [.one .ptr] K w) w.here):Ct Pg F.jV [.agg (aT I11 t).toArray] w X [.one .ptr] K:=
 cod (Sh.jV t) 7 [(1,7)] [(7,11)] [] f277 h
end
section
set_option maxRecDepth 100000
open Go.Proofs.Tryz
variable {e0:Option Addr} {a b l:Sl} {w:TW} {X:Nat→Prop} {K:KT [.one .slice]}
def Sh.eh(e0:Option Addr)(l:Sl)(R:Value→TW→Prop)(w:TW):Prop:=
Jn [.slice] (λJ0=>
Lp [.slice,.int .i64] (λ(g:Sl)(x:Int) w1 C0=>
cond (decide ((x:Int)<(l.n:Int))) (
ixa l x 1 λa=>
ldc (.slice) w1 a λ(v:Sl)=>
cl Pg F.dy [.pointer e0,g.v,v.v] w1 [.one .slice] λ(s:Sl) w2=>
bnd (wi (x+1)) λn=>
C0 s n w2) (
J0 g w1)) Sl.nil 0 w) λ(g1:Sl) w3=>
R (g1.v) w3
theorem Ct.eh(h:Sh.eh e0 l (Rt X [.one .slice] K w) w.here):Ct Pg F.eh [.pointer e0,l.v] w X [.one .slice] K:=
 cod (Sh.eh e0 l) 20 [] [] [(2,0,[(5,.one .slice)]),(3,3,[(5,.one .slice),(10,.one (.int .i64))])] f61 h
def Sh.eg(e0:Option Addr)(l:Sl)(R:Value→TW→Prop)(w:TW):Prop:=
cl Pg F.bZ [.int .u64 1] w [.one .slice] λ(s:Sl) w1=>
Jn [.slice] (λJ0=>
Lp [.slice,.int .i64] (λ(out:Sl)(x:Int) w2 C0=>
cond (decide ((x:Int)<(l.n:Int))) (
ixa l x 1 λa=>
ldc (.slice) w2 a λ(v:Sl)=>
cl Pg F.az [v.v] w2 [.one .bool] λ(ok:Bool) w3=>
cond ok (
R (.slice none 0 0) w3) (
nck e0 λa1=>
ldc (.ptr) w3.drew a1 λ(v1:Option Addr)=>
nck v1 λa2=>
ldc (.ptr) w3.drew a2 λ(v2:Option Addr)=>
nck v2 λa3=>
ldc (.ptr) w3.drew a3 λ(v3:Option Addr)=>
nck v3 λa4=>
ldc (.ptr) w3.drew a4 λ(v4:Option Addr)=>
nck v4 λa5=>
ldc (.ptr) w3.drew a5 λ(v5:Option Addr)=>
cl Pg F.dy [.pointer e0,out.v,v.v] w3.drew [.one .slice] λ(s1:Sl) w4=>
hld w4 [(a5,.pointer v5),(a4,.pointer v4),(a3,.pointer v3),(a2,.pointer v2),(a1,.pointer v1)] <|
cl Pg F.aP [.pointer v5,v.v,s1.v] w4 [.one .slice,.one .slice,.one (.int .i64)] λ(s2:Sl)(_:Sl)(_:Int) w5=>
hld w5 [(a4,.pointer v4),(a3,.pointer v3),(a2,.pointer v2),(a1,.pointer v1)] <|
nck e0 λa6=>
ldc (.ptr) w5 a6 λ(v6:Option Addr)=>
nck v6 λa7=>
ldc (.ptr) w5 a7 λ(v7:Option Addr)=>
nck v7 λa8=>
ldc (.ptr) w5 a8 λ(v8:Option Addr)=>
nck v8 λa9=>
ldc (.ptr) w5 a9 λ(v9:Option Addr)=>
nck v9 λa10=>
ldc (.ptr) w5 a10 λ(v10:Option Addr)=>
nck v10 λa11=>
ldc (.ptr) w5 a11 λ(v11:Option Addr)=>
nck v11 λa12=>
ldc (.ptr) w5 a12 λ(v12:Option Addr)=>
nck v12 λa13=>
ldc (.ptr) w5 a13 λ(v13:Option Addr)=>
cl Pg F.bv [.pointer v13,out.v,s2.v] w5 [.one .slice] λ(s4:Sl) w6=>
bnd (wi (x+1)) λn=>
C0 s4 n w6)) (
J0 out w2)) s 0 w1) λ(out1:Sl) w7=>
R (out1.v) w7
theorem Ct.eg(h:Sh.eg e0 l (Rt X [.one .slice] K w) w.here):Ct Pg F.eg [.pointer e0,l.v] w X [.one .slice] K:=
 cod (Sh.eg e0 l) 76 [] [] [(2,0,[(5,.one .slice)]),(3,3,[(5,.one .slice),(14,.one (.int .i64))])] f71 h
def Sh.dy(e0:Option Addr)(a:Sl)(b:Sl)(R:Value→TW→Prop)(w:TW):Prop:=
Jn [.bool] (λJ0=>
nck e0 λa1=>
ldc (.ptr) w.drew a1 λ(v:Option Addr)=>
nck v λa2=>
ldc (.ptr) w.drew a2 λ(v1:Option Addr)=>
nck v1 λa3=>
ldc (.ptr) w.drew a3 λ(v2:Option Addr)=>
nck v2 λa4=>
ldc (.ptr) w.drew a4 λ(v3:Option Addr)=>
nck v3 λa5=>
ldc (.ptr) w.drew a5 λ(v4:Option Addr)=>
nck v4 λa6=>
ldc (.ptr) w.drew a6 λ(v5:Option Addr)=>
nck v5 λa7=>
ldc (.ptr) w.drew a7 λ(v6:Option Addr)=>
nck v6 λa8=>
ldc (.ptr) w.drew a8 λ(v7:Option Addr)=>
nck v7 λa9=>
ldc (.ptr) w.drew a9 λ(v8:Option Addr)=>
nck v8 λa10=>
ldc (.ptr) w.drew a10 λ(v9:Option Addr)=>
nck v9 λa11=>
ldc (.ptr) w.drew a11 λ(v10:Option Addr)=>
nck v10 λa12=>
ldc (.ptr) w.drew a12 λ(v11:Option Addr)=>
nck v11 λa13=>
ldc (.int .i64) w.drew ((a13.add 3).add 5) λ(v12:Int)=>
cl Pg F.aS [a.v] w.drew [.one (.int .i64)] λ(r:Int) w1=>
hld w1 [(((a13.add 3).add 5),.int .i64 v12),(a12,.pointer v11),(a11,.pointer v10),(a10,.pointer v9),(a9,.pointer v8),(a8,.pointer v7),(a7,.pointer v6),(a6,.pointer v5),(a5,.pointer v4),(a4,.pointer v3),(a3,.pointer v2),(a2,.pointer v1),(a1,.pointer v)] <|
cond (decide ((r:Int)≥v12)) (
nck e0 λa14=>
ldc (.ptr) w1 a14 λ(v13:Option Addr)=>
nck v13 λa15=>
ldc (.ptr) w1 a15 λ(v14:Option Addr)=>
nck v14 λa16=>
ldc (.ptr) w1 a16 λ(v15:Option Addr)=>
nck v15 λa17=>
ldc (.ptr) w1 a17 λ(v16:Option Addr)=>
nck v16 λa18=>
ldc (.ptr) w1 a18 λ(v17:Option Addr)=>
nck v17 λa19=>
ldc (.ptr) w1 a19 λ(v18:Option Addr)=>
nck v18 λa20=>
ldc (.ptr) w1 a20 λ(v19:Option Addr)=>
nck v19 λa21=>
ldc (.ptr) w1 a21 λ(v20:Option Addr)=>
nck v20 λa22=>
ldc (.ptr) w1 a22 λ(v21:Option Addr)=>
nck v21 λa23=>
ldc (.ptr) w1 a23 λ(v22:Option Addr)=>
nck v22 λa24=>
ldc (.ptr) w1 a24 λ(v23:Option Addr)=>
nck v23 λa25=>
ldc (.ptr) w1 a25 λ(v24:Option Addr)=>
nck v24 λa26=>
ldc (.int .i64) w1 ((a26.add 3).add 5) λ(v25:Int)=>
cl Pg F.aS [b.v] w1 [.one (.int .i64)] λ(r1:Int) w2=>
hld w2 [(((a26.add 3).add 5),.int .i64 v25),(a25,.pointer v24),(a24,.pointer v23),(a23,.pointer v22),(a22,.pointer v21),(a21,.pointer v20),(a20,.pointer v19),(a19,.pointer v18),(a18,.pointer v17),(a17,.pointer v16),(a16,.pointer v15),(a15,.pointer v14),(a14,.pointer v13),(((a13.add 3).add 5),.int .i64 v12),(a12,.pointer v11),(a11,.pointer v10),(a10,.pointer v9),(a9,.pointer v8),(a8,.pointer v7),(a7,.pointer v6),(a6,.pointer v5),(a5,.pointer v4),(a4,.pointer v3),(a3,.pointer v2),(a2,.pointer v1),(a1,.pointer v)] <|
J0 (decide ((r1:Int)≥v25)) w2) (
J0 false w1)) λ(x:Bool) w3=>
cond x (
cl Pg F.pA [.pointer e0,a.v,b.v] w3 [.one .slice] λ(s:Sl) w4=>
R (s.v) w4) (
cl Pg F.dq [.pointer e0,a.v,b.v] w3 [.one .slice] λ(s1:Sl) w5=>
R (s1.v) w5)
theorem Ct.dy(h:Sh.dy e0 a b (Rt X [.one .slice] K w) w.here):Ct Pg F.dy [.pointer e0,a.v,b.v] w X [.one .slice] K:=
 cod (Sh.dy e0 a b) 105 [] [] [(0,1,[(96,.one .bool)])] f90 h
def Sh.dq(e0:Option Addr)(a:Sl)(b:Sl)(R:Value→TW→Prop)(w:TW):Prop:=
cl Pg F.az [a.v] w [.one .bool] λ(ok:Bool) w1=>
cond ok (
cl Pg F.aW [b.v] w1 [.one .slice] λ(s:Sl) w2=>
R (s.v) w2) (
cl Pg F.az [b.v] w1 [.one .bool] λ(ok1:Bool) w3=>
cond ok1 (
cl Pg F.aW [a.v] w3 [.one .slice] λ(s1:Sl) w4=>
R (s1.v) w4) (
cl Pg F.iQ [a.v] w3 [.one (.int .i64)] λ(r:Int) w5=>
cl Pg F.iQ [b.v] w5 [.one (.int .i64)] λ(r1:Int) w6=>
cl Pg F.eR [a.v,.int .i64 r] w6 [.one .slice] λ(s2:Sl) w7=>
cl Pg F.eR [b.v,.int .i64 r1] w7 [.one .slice] λ(s3:Sl) w8=>
Lp [.slice,.slice] (λ(a1:Sl)(b1:Sl) w9 C0=>
cl Pg F.fF [a1.v,b1.v] w9 [.one (.int .i64)] λ(r2:Int) w10=>
cond ((r2:Int) == 0) (
bnd (if (r1:Int)<r then r1 else r) λn=>
cl Pg F.dT [a1.v,.int .i64 n] w10 [.one .slice] λ(s4:Sl) w11=>
R (s4.v) w11) (
Jn [.slice,.slice] (λJ0=>
cond (decide ((r2:Int)<0)) (
J0 b1 a1 w10) (
J0 a1 b1 w10)) λ(a2:Sl)(b2:Sl) w12=>
cl Pg F.dw [a2.v,b2.v] w12 [.one .slice,.one .bool] λ(s5:Sl)(_:Bool) w13=>
cl Pg F.iQ [s5.v] w13 [.one (.int .i64)] λ(r3:Int) w14=>
cl Pg F.eR [s5.v,.int .i64 r3] w14 [.one .slice] λ(s6:Sl) w15=>
C0 s6 b2 w15)) s2 s3 w8))
theorem Ct.dq(h:Sh.dq e0 a b (Rt X [.one .slice] K w) w.here):Ct Pg F.dq [.pointer e0,a.v,b.v] w X [.one .slice] K:=
 cod (Sh.dq e0 a b) 52 [] [] [(3,7,[(1,.one .slice),(2,.one .slice)]),(1,11,[(1,.one .slice),(2,.one .slice)])] f111 h
def Sh.iQ(a:Sl)(R:Value→TW→Prop)(w:TW):Prop:=
Jn [.int .i64] (λJ0=>
Lp [.int .i64] (λ(k:Int) w1 C0=>
ixa a k 1 λa1=>
ldc (.int .u64) w1 a1 λ(v:Int)=>
cond ((v:Int) == 0) (
bnd (wi (k+1)) λn=>
C0 n w1) (
J0 k w1)) 0 w) λ(k1:Int) w2=>
bnd (wi (64*k1)) λn1=>
ixa a k1 1 λa2=>
ldc (.int .u64) w2 a2 λ(v1:Int)=>
cl Pg F.bB [.int .u64 v1] w2 [.one (.int .i64)] λ(r:Int) w3=>
bnd (wi (n1+r)) λn2=>
R (.int .i64 n2) w3
theorem Ct.iQ{K:KT [.one (.int .i64)]}(h:Sh.iQ a (Rt X [.one (.int .i64)] K w) w.here):Ct Pg F.iQ [a.v] w X [.one (.int .i64)] K:=
 cod (Sh.iQ a) 19 [] [] [(2,0,[(3,.one (.int .i64))]),(3,2,[(3,.one (.int .i64))])] f135 h
def Sh.kC(t:HL I11)(R:Value→TW→Prop)(w:TW):Prop:=
nwv w λw1=>
cl Pg F.jz [.agg (aT I11 t).toArray] w1 [.one .ptr] λ(p:Option Addr) w2=>
nwb w2 [.pointer p] T.wM λb w3=>
R (.pointer (some ⟨b,0,none⟩)) w3
theorem Ct.kC{t:HL I11}{K:KT [.one .ptr]}(h:Sh.kC t (Rt X [.one .ptr] K w) w.here):Ct Pg F.kC [.agg (aT I11 t).toArray] w X [.one .ptr] K:=
 cod (Sh.kC t) 7 [(1,7)] [(7,11)] [] f165 h
end
end Go.Proofs.YtpbimnlggalnfaaGreatDoor.Zg
