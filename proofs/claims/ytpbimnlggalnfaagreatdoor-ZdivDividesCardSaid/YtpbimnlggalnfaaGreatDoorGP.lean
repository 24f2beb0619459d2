/- A part of the proofs of this seat's laws. -/
import Derived.Test.YtpbimnlggalnfaaGreatDoorGC
set_option linter.unusedVariables false
set_option linter.unusedSimpArgs false
set_option linter.unnecessarySimpa false
namespace Go.Proofs.YtpbimnlggalnfaaGreatDoor.Zg
open Go.RowKit
section
set_option maxRecDepth 100000
open Go.Proofs.Tryz
variable {n:Sl}
def Sh.aB(n:Sl):PR:=λR w=>
cl Pg F.aO [n.v] w [.one (.int .i64)] λ(r:Int) w1=>
R (.bool ((r:Int) == 0)) w1
theorem Ct.aB:CG (Sh.aB n) F.aB [n.v] [.one .bool]:=cod 6 [] [] [] f89
def Sh.gi(i0:Sl)(i1:Bool):PR:=λR w=>
nwv w λw1=>
cl Pg F.aB [i0.v] w1 [.one .bool] λ(ok:Bool) w2=>
cond ok (
R (.int .i64 0) w2) (
cond i1 (
R (.int .i64 (-1)) w2) (
R (.int .i64 1) w2))
theorem Ct.gi{i0:Sl}{i1:Bool}:CG (Sh.gi i0 i1) F.gi [.agg #[i0.v,.bool i1]] [.one (.int .i64)]:=cod 10 [(1,10)] [(10,2)] [] f93
def Sh.aO(n:Sl):PR:=λR w=>
Jn [.int .i64] (λJ0=>
Lp [.int .i64] (λ(k:Int) w1 C0=>
Jn [.bool] (λJ1=>
cond (decide ((k:Int)>0)) (
bnd (wi (k-1)) λn1=>
ixa n n1 1 λa=>
ldc (.int .u64) w1 a λ(v:Int)=>
J1 ((v:Int) == 0) w1) (
J1 false w1)) λ(x:Bool) w2=>
cond x (
bnd (wi (k-1)) λn2=>
C0 n2 w2) (
J0 k w2)) (n.n:Int) w) λ(k1:Int) w3=>
R (.int .i64 k1) w3
theorem Ct.aO:CG (Sh.aO n) F.aO [n.v] [.one (.int .i64)]:=cod 19 [] [] [(2,0,[(3,.one (.int .i64))]),(3,2,[(3,.one (.int .i64))]),(0,2,[(15,.one .bool)])] f109
def Sh.bo(n:Sl):PR:=λR w=>
cl Pg F.aO [n.v] w [.one (.int .i64)] λ(r:Int) w1=>
cond ((r:Int) == 0) (
R (.int .i64 0) w1) (
bnd (wi (r-1)) λn1=>
bnd (wi (64*n1)) λn2=>
bnd (wi (r-1)) λn3=>
ixa n n3 1 λa=>
ldc (.int .u64) w1 a λ(v:Int)=>
cl Pg F.fI [.int .u64 v] w1 [.one (.int .i64)] λ(r1:Int) w2=>
bnd (wi (n2+r1)) λn4=>
R (.int .i64 n4) w2)
theorem Ct.bo:CG (Sh.bo n) F.bo [n.v] [.one (.int .i64)]:=cod 18 [] [] [] f115
end
section
set_option maxRecDepth 100000
open Go.Proofs.Tryz
variable {x y:Int}
def Sh.jX(x:Int):PR:=λR w=>
cl Pg F.fI [.int .u64 x] w [.one (.int .i64)] λ(r:Int) w1=>
R (.int .i64 r) w1
theorem Ct.jX:CG (Sh.jX x) F.jX [.int .u64 x] [.one (.int .i64)]:=cod 8 [] [] [] f139
def Sh.fI(x:Int):PR:=λR w=>
Jn [.int .u64,.int .i64] (λJ0=>
cond (decide ((x:Int)≥4294967296)) (
gJ .u64 x 32 λn=>
J0 n 32 w) (
J0 x 0 w)) λ(x1:Int)(n1:Int) w1=>
Jn [.int .u64,.int .i64] (λJ1=>
cond (decide ((x1:Int)≥65536)) (
gJ .u64 x1 16 λn2=>
bnd (wi (n1+16)) λn3=>
J1 n2 n3 w1) (
J1 x1 n1 w1)) λ(x2:Int)(n4:Int) w2=>
Jn [.int .u64,.int .i64] (λJ2=>
cond (decide ((x2:Int)≥256)) (
gJ .u64 x2 8 λn5=>
bnd (wi (n4+8)) λn6=>
J2 n5 n6 w2) (
J2 x2 n4 w2)) λ(x3:Int)(n7:Int) w3=>
bnd (IntKind.u8.wrap (x3)) λn8=>
ixs (⟨#[0,1,2,2,3,3,3,3,4,4,4,4,4,4,4,4,5,5,5,5,5,5,5,5,5,5,5,5,5,5,5,5,6,6,6,6,6,6,6,6,6,6,6,6,6,6,6,6,6,6,6,6,6,6,6,6,6,6,6,6,6,6,6,6,7,7,7,7,7,7,7,7,7,7,7,7,7,7,7,7,7,7,7,7,7,7,7,7,7,7,7,7,7,7,7,7,7,7,7,7,7,7,7,7,7,7,7,7,7,7,7,7,7,7,7,7,7,7,7,7,7,7,7,7,7,7,7,7,8,8,8,8,8,8,8,8,8,8,8,8,8,8,8,8,8,8,8,8,8,8,8,8,8,8,8,8,8,8,8,8,8,8,8,8,8,8,8,8,8,8,8,8,8,8,8,8,8,8,8,8,8,8,8,8,8,8,8,8,8,8,8,8,8,8,8,8,8,8,8,8,8,8,8,8,8,8,8,8,8,8,8,8,8,8,8,8,8,8,8,8,8,8,8,8,8,8,8,8,8,8,8,8,8,8,8,8,8,8,8,8,8,8,8,8,8,8,8,8,8,8,8,8,8,8,8,8]⟩:ByteArray) n8 λn9=>
bnd (wi (n9)) λn10=>
bnd (wi (n7+n10)) λn11=>
R (.int .i64 n11) w3
theorem Ct.fI:CG (Sh.fI x) F.fI [.int .u64 x] [.one (.int .i64)]:=cod 25 [] [] [(1,2,[(0,.one (.int .u64)),(2,.one (.int .i64))]),(1,5,[(0,.one (.int .u64)),(2,.one (.int .i64))]),(1,8,[(0,.one (.int .u64)),(2,.one (.int .i64))])] f142
def Sh.bv(x:Int):PR:=λR w=>
cl Pg F.fI [.int .u64 x] w [.one (.int .i64)] λ(r:Int) w1=>
bnd (wi (64-r)) λn=>
R (.int .i64 n) w1
theorem Ct.bv:CG (Sh.bv x) F.bv [.int .u64 x] [.one (.int .i64)]:=cod 6 [] [] [] f158
def Sh.bH(x:Int):PR:=λR w=>
cond ((x:Int) == 0) (
R (.int .i64 64) w) (
bnd (wu (0-x)) λn=>
bnd (bg .and .u64 x n) λn1=>
bnd (wu (n1*285870213051353865)) λn2=>
gJ .u64 n2 58 λn3=>
ixp ⟨0,0,none⟩ n3 64 1 λa=>
ldc (.int .u8) w a λ(v:Int)=>
bnd (wi (v)) λn4=>
R (.int .i64 n4) w)
theorem Ct.bH:CG (Sh.bH x) F.bH [.int .u64 x] [.one (.int .i64)]:=cod 14 [] [] [] f169
def Sh.eU(hi:Int)(lo:Int)(y:Int):PR:=λR w=>
Jn [] (λJ0=>
cond ((y:Int) == 0) (
False) (
J0 w)) fun  w1=>
Jn [] (λJ1=>
cond (decide ((y:Int)≤hi)) (
False) (
J1 w1)) fun  w2=>
cond ((hi:Int) == 0) (
d9 .u64 lo y λn=>
dV lo y λn1=>
R (.tuple #[.int .u64 n,.int .u64 n1]) w2.drew) (
cl Pg F.bv [.int .u64 y] w2 [.one (.int .i64)] λ(r:Int) w3=>
bnd (wu (r)) λn2=>
jv .u64 y n2 λn3=>
gJ .u64 n3 32 λn4=>
bnd (bg .and .u64 n3 4294967295) λn5=>
jv .u64 hi n2 λn6=>
bnd (wu (64-n2)) λn7=>
gJ .u64 lo n7 λn8=>
bnd (bg .or .u64 n6 n8) λn9=>
jv .u64 lo n2 λn10=>
gJ .u64 n10 32 λn11=>
bnd (bg .and .u64 n10 4294967295) λn12=>
d9 .u64 n9 n4 λn13=>
bnd (wu (n13*n4)) λn14=>
bnd (wu (n9-n14)) λn15=>
Jn [.int .u64] (λJ2=>
Lp [.int .u64,.int .u64] (λ(q1:Int)(rhat:Int) w4 C0=>
Jn [.bool] (λJ3=>
cond (decide ((q1:Int)≥4294967296)) (
J3 true w4) (
bnd (wu (q1*n5)) λn16=>
bnd (wu (4294967296*rhat)) λn17=>
bnd (wu (n17+n11)) λn18=>
J3 (decide ((n16:Int)>n18)) w4)) λ(x:Bool) w5=>
cond x (
bnd (wu (q1-1)) λn19=>
bnd (wu (rhat+n4)) λn20=>
cond (decide ((n20:Int)≥4294967296)) (
J2 n19 w5) (
C0 n19 n20 w5)) (
J2 q1 w5)) n13 n15 w3) λ(q11:Int) w6=>
bnd (wu (n9*4294967296)) λn21=>
bnd (wu (n21+n11)) λn22=>
bnd (wu (q11*n3)) λn23=>
bnd (wu (n22-n23)) λn24=>
d9 .u64 n24 n4 λn25=>
bnd (wu (n25*n4)) λn26=>
bnd (wu (n24-n26)) λn27=>
Jn [.int .u64] (λJ4=>
Lp [.int .u64,.int .u64] (λ(rhat1:Int)(q0:Int) w7 C1=>
Jn [.bool] (λJ5=>
cond (decide ((q0:Int)≥4294967296)) (
J5 true w7) (
bnd (wu (q0*n5)) λn28=>
bnd (wu (4294967296*rhat1)) λn29=>
bnd (wu (n29+n12)) λn30=>
J5 (decide ((n28:Int)>n30)) w7)) λ(x1:Bool) w8=>
cond x1 (
bnd (wu (q0-1)) λn31=>
bnd (wu (rhat1+n4)) λn32=>
cond (decide ((n32:Int)≥4294967296)) (
J4 n31 w8) (
C1 n32 n31 w8)) (
J4 q0 w8)) n27 n25 w6) λ(q01:Int) w9=>
bnd (wu (q11*4294967296)) λn33=>
bnd (wu (n33+q01)) λn34=>
bnd (wu (n24*4294967296)) λn35=>
bnd (wu (n35+n12)) λn36=>
bnd (wu (q01*n3)) λn37=>
bnd (wu (n36-n37)) λn38=>
gJ .u64 n38 n2 λn39=>
R (.tuple #[.int .u64 n34,.int .u64 n39]) w9)
theorem Ct.eU{hi:Int}{lo:Int}:CG (Sh.eU hi lo y) F.eU [.int .u64 hi,.int .u64 lo,.int .u64 y] [.one (.int .u64),.one (.int .u64)]:=cod 135 [] [] [(1,2,[]),(1,4,[]),(2,0,[(15,.one (.int .u64))]),(3,17,[(15,.one (.int .u64)),(16,.one (.int .u64))]),(0,17,[(78,.one .bool)]),(2,2,[(18,.one (.int .u64))]),(3,24,[(16,.one (.int .u64)),(18,.one (.int .u64))]),(0,24,[(113,.one .bool)])] f181
def Sh.aL(x:Int)(y:Int):PR:=λR w=>
bnd (bg .and .u64 x 4294967295) λn=>
gJ .u64 x 32 λn1=>
bnd (bg .and .u64 y 4294967295) λn2=>
gJ .u64 y 32 λn3=>
bnd (wu (n*n2)) λn4=>
bnd (wu (n1*n2)) λn5=>
gJ .u64 n4 32 λn6=>
bnd (wu (n5+n6)) λn7=>
bnd (bg .and .u64 n7 4294967295) λn8=>
gJ .u64 n7 32 λn9=>
bnd (wu (n*n3)) λn10=>
bnd (wu (n8+n10)) λn11=>
bnd (wu (n1*n3)) λn12=>
bnd (wu (n12+n9)) λn13=>
gJ .u64 n11 32 λn14=>
bnd (wu (n13+n14)) λn15=>
bnd (wu (x*y)) λn16=>
R (.tuple #[.int .u64 n15,.int .u64 n16]) w
theorem Ct.aL:CG (Sh.aL x y) F.aL [.int .u64 x,.int .u64 y] [.one (.int .u64),.one (.int .u64)]:=cod 51 [] [] [] f184
def Sh.fP(x:Int):PR:=λR w=>
gJ .u64 x 1 λn=>
bnd (bg .and .u64 n 6148914691236517205) λn1=>
bnd (bg .and .u64 x 6148914691236517205) λn2=>
jv .u64 n2 1 λn3=>
bnd (bg .or .u64 n1 n3) λn4=>
gJ .u64 n4 2 λn5=>
bnd (bg .and .u64 n5 3689348814741910323) λn6=>
bnd (bg .and .u64 n4 3689348814741910323) λn7=>
jv .u64 n7 2 λn8=>
bnd (bg .or .u64 n6 n8) λn9=>
gJ .u64 n9 4 λn10=>
bnd (bg .and .u64 n10 1085102592571150095) λn11=>
bnd (bg .and .u64 n9 1085102592571150095) λn12=>
jv .u64 n12 4 λn13=>
bnd (bg .or .u64 n11 n13) λn14=>
cl Pg F.cB [.int .u64 n14] w [.one (.int .u64)] λ(r:Int) w1=>
R (.int .u64 r) w1
theorem Ct.fP:CG (Sh.fP x) F.fP [.int .u64 x] [.one (.int .u64)]:=cod 26 [] [] [] f275
def Sh.cB(x:Int):PR:=λR w=>
gJ .u64 x 8 λn=>
bnd (bg .and .u64 n 71777214294589695) λn1=>
bnd (bg .and .u64 x 71777214294589695) λn2=>
jv .u64 n2 8 λn3=>
bnd (bg .or .u64 n1 n3) λn4=>
gJ .u64 n4 16 λn5=>
bnd (bg .and .u64 n5 281470681808895) λn6=>
bnd (bg .and .u64 n4 281470681808895) λn7=>
jv .u64 n7 16 λn8=>
bnd (bg .or .u64 n6 n8) λn9=>
gJ .u64 n9 32 λn10=>
jv .u64 n9 32 λn11=>
bnd (bg .or .u64 n10 n11) λn12=>
R (.int .u64 n12) w
theorem Ct.cB:CG (Sh.cB x) F.cB [.int .u64 x] [.one (.int .u64)]:=cod 22 [] [] [] f278
end
section
set_option maxRecDepth 100000
open Go.Proofs.Tryz
variable {m:Option Addr} {a b:Sl} {n:Int}
def Sh.kv(m:Option Addr)(a:Sl)(b:Sl):PR:=λR w=>
cl Pg F.iM [.pointer m,a.v,b.v] w [.one .slice,.one .bool] λ(s:Sl)(ok:Bool) w1=>
cond (!ok) (
R (.tuple #[.slice none 0 0,.bool false]) w1) (
cl Pg F.ju [s.v] w1 [.one .slice] λ(s1:Sl) w2=>
R (.tuple #[s1.v,.bool true]) w2)
theorem Ct.kv:CG (Sh.kv m a b) F.kv [.pointer m,a.v,b.v] [.one .slice,.one .bool]:=cod 21 [] [] [] f189
def Sh.iM(m:Option Addr)(a:Sl)(b:Sl):PR:=λR w=>
nwb w [a.v] T.jy λb1 w1=>
nwb w1 [b.v] T.jy λb2 w2=>
ldc (.slice) w2 ⟨b1,0,none⟩ λ(v:Sl)=>
ldc (.slice) w2 ⟨b2,0,none⟩ λ(v1:Sl)=>
cl Pg F.ku [.int .i64 (v.n:Int),.int .i64 (v1.n:Int)] w2 [.one .bool] λ(ok:Bool) w3=>
cond (!ok) (
R (.tuple #[.slice none 0 0,.bool false]) w3) (
ldc (.slice) w3 ⟨b1,0,none⟩ λ(v2:Sl)=>
ldc (.slice) w3 ⟨b2,0,none⟩ λ(v3:Sl)=>
bnd (wi ((v2.n:Int)+(v3.n:Int))) λn=>
bnd (wi (n-1)) λn1=>
ldc (.slice) w3 ⟨b1,0,none⟩ λ(v4:Sl)=>
ldc (.slice) w3 ⟨b2,0,none⟩ λ(v5:Sl)=>
bnd (wi ((v4.n:Int)+(v5.n:Int))) λn2=>
cl Pg F.iX [.pointer m,.int .i64 n1,.int .i64 n2,.func (.func F.gh) #[] #[.pointer (some ⟨b1,0,none⟩),.pointer (some ⟨b2,0,none⟩)]] w3 [.one .slice,.one .bool] λ(s:Sl)(ok1:Bool) w4=>
R (.tuple #[s.v,.bool ok1]) w4)
theorem Ct.iM:CG (Sh.iM m a b) F.iM [.pointer m,a.v,b.v] [.one .slice,.one .bool]:=cod 30 [] [] [] f212
def Sh.ju(l:Sl):PR:=λR w=>
bnd (wi ((l.n:Int)+4)) λn=>
mks w n n T.an 8 [.int .u64 0] λs w1=>
Jn [] (λJ0=>
Lp [.int .i64] (λ(x:Int) w2 C0=>
cond (decide ((x:Int)<(l.n:Int))) (
ixa l x 3 λa=>
ldc (.int .u64) w2 (a.add 0) λ(v:Int)=>
ldc (.int .u64) w2 (a.add 1) λ(v1:Int)=>
ldc (.int .u64) w2 (a.add 2) λ(v2:Int)=>
nwb w2 [.int .u64 0,.int .u64 0,.int .u64 0] T.iJ λb w3=>
stc w3 ⟨b,0,none⟩ (.int .u64 v) λw4=>
stc w4 (Addr.add ⟨b,0,none⟩ 1) (.int .u64 v1) λw5=>
stc w5 (Addr.add ⟨b,0,none⟩ 2) (.int .u64 v2) λw6=>
Jn [] (λJ1=>
Lp [.int .u64,.int .i64] (λ(c:Int)(j:Int) w7 C1=>
Jn [.bool] (λJ2=>
cond (decide ((j:Int)<3)) (
J2 true w7) (
J2 (decide ((c:Int)>0)) w7)) λ(x1:Bool) w8=>
cond x1 (
Jn [.int .u64] (λJ3=>
cond (decide ((j:Int)<3)) (
ixp ⟨b,0,none⟩ j 3 1 λa1=>
ldc (.int .u64) w8 a1 λ(v3:Int)=>
J3 v3 w8) (
J3 0 w8)) λ(x2:Int) w9=>
bnd (wi (x+j)) λn1=>
bnd (wi (x+j)) λn2=>
ixa s n2 1 λa2=>
ldc (.int .u64) w9 a2 λ(v4:Int)=>
gv v4 x2 c λs1 c1=>
ixa s n1 1 λa3=>
stc w9 a3 (.int .u64 s1) λw10=>
bnd (wi (j+1)) λn3=>
C1 c1 n3 w10) (
J1 w8)) 0 0 w6) fun  w11=>
bnd (wi (x+1)) λn4=>
C0 n4 w11) (
J0 w2)) 0 w1) fun  w12=>
cl Pg F.aF [s.v] w12 [.one .slice] λ(s2:Sl) w13=>
R (s2.v) w13
theorem Ct.ju{l:Sl}:CG (Sh.ju l) F.ju [l.v] [.one .slice]:=cod 53 [] [] [(2,0,[]),(3,3,[(15,.one (.int .i64))]),(2,2,[]),(3,7,[(6,.one (.int .u64)),(7,.one (.int .i64))]),(0,7,[(25,.one .bool)]),(1,11,[(8,.one (.int .u64))])] f222
def Sh.ku(n:Int)(m:Int):PR:=λR w=>
Jn [.bool] (λJ0=>
cond (decide ((n:Int)>0)) (
cond (decide ((m:Int)>0)) (
cond (decide ((n:Int)≤1048576)) (
bnd (wi (1048576-n)) λn1=>
J0 (decide ((m:Int)≤n1)) w) (
J0 false w)) (
J0 false w)) (
J0 false w)) λ(x:Bool) w1=>
R (.bool x) w1
theorem Ct.ku{m:Int}:CG (Sh.ku n m) F.ku [.int .i64 n,.int .i64 m] [.one .bool]:=cod 21 [] [] [(0,1,[(4,.one .bool)])] f236
def Sh.iX(m:Option Addr)(n:Int)(size:Int)(one:Value):PR:=λR w=>
cl Pg F.jt [] w [.one .ptr] λ(p:OA) w1=>
nwb w1 [.slice none 0 0,.slice none 0 0,.slice none 0 0] T.we λb w2=>
Jn [] (λJ0=>
Lp [.int .i64] (λ(x:Int) w3 C0=>
cond (decide ((x:Int)<3)) (
nck p λa=>
ixp a x 3 1 λa1=>
ldc (.int .u64) w3.drew a1 λ(v:Int)=>
cl Pg F.jA [.int .i64 size] w3.drew [.one (.int .i64)] λ(r:Int) w4=>
hld w4 [(a1,.int .u64 v)] <|
cl Pg F.kE [.pointer m,.int .u64 v,.int .i64 r] w4 [.one .ptr,.one (.int .i64)] λ(p1:OA)(r1:Int) w5=>
cond ((r1:Int) != 0) (
R (.tuple #[.slice none 0 0,.bool false]) w5) (
clv Pg one [.pointer p1] w5 [.one .slice,.one .bool] λ(s:Sl)(ok:Bool) w6=>
cond (!ok) (
R (.tuple #[.slice none 0 0,.bool false]) w6) (
ixp ⟨b,0,none⟩ x 3 1 λa2=>
stc w6 a2 s.v λw7=>
bnd (wi (x+1)) λn1=>
C0 n1 w7))) (
J0 w3)) 0 w2) fun  w8=>
cl Pg F.jA [.int .i64 size] w8 [.one (.int .i64)] λ(r2:Int) w9=>
bnd (wu (r2)) λn2=>
jv .i64 6 n2 λn3=>
cl Pg F.aS [.pointer m,.int .i64 n3] w9 [.one (.int .i64)] λ(_:Int) w10=>
mks w10 n n T.iJ 24 [.int .u64 0,.int .u64 0,.int .u64 0] λs1 w11=>
Jn [] (λJ1=>
Lp [.int .i64] (λ(x1:Int) w12 C1=>
cond (decide ((x1:Int)<(s1.n:Int))) (
ixp ⟨b,0,none⟩ 0 3 1 λa3=>
ldc (.slice) w12.drew a3 λ(v1:Sl)=>
ixa v1 x1 1 λa4=>
ldc (.int .u64) w12.drew a4 λ(v2:Int)=>
ixp ⟨b,0,none⟩ 1 3 1 λa5=>
ldc (.slice) w12.drew a5 λ(v3:Sl)=>
ixa v3 x1 1 λa6=>
ldc (.int .u64) w12.drew a6 λ(v4:Int)=>
ixp ⟨b,0,none⟩ 2 3 1 λa7=>
ldc (.slice) w12.drew a7 λ(v5:Sl)=>
ixa v5 x1 1 λa8=>
ldc (.int .u64) w12.drew a8 λ(v6:Int)=>
cl Pg F.fO [.pointer p,.int .u64 v2,.int .u64 v4,.int .u64 v6] w12.drew [.agg [.int .u64,.int .u64,.int .u64]] λ(r4:Int)(r5:Int)(r6:Int) w13=>
hld w13 [(a7,v5.v),(a5,v3.v),(a3,v1.v)] <|
ixa s1 x1 3 λa9=>
stc w13 a9 (.int .u64 r4) λw14=>
stc w14 (a9.add 1) (.int .u64 r5) λw15=>
stc w15 (a9.add 2) (.int .u64 r6) λw16=>
bnd (wi (x1+1)) λn4=>
C1 n4 w16) (
J1 w12)) 0 w11) fun  w17=>
R (.tuple #[s1.v,.bool true]) w17
theorem Ct.iX{size:Int}{one:Value}:CG (Sh.iX m n size one) F.iX [.pointer m,.int .i64 n,.int .i64 size,one] [.one .slice,.one .bool]:=cod 85 [] [] [(2,0,[]),(3,4,[(20,.one (.int .i64))]),(2,2,[]),(3,17,[(60,.one (.int .i64))])] f237
def Sh.gh(t:Option Addr)(cap:Addr)(cap1:Addr):PR:=λR w=>
ldc (.slice) w cap λ(v:Sl)=>
ldc (.slice) w cap1 λ(v1:Sl)=>
cl Pg F.gq [.pointer t,v.v,v1.v] w [.one .slice,.one .bool] λ(s:Sl)(ok:Bool) w1=>
R (.tuple #[s.v,.bool ok]) w1
theorem Ct.gh{t:Option Addr}{cap:Addr}{cap1:Addr}:CG (Sh.gh t cap cap1) F.gh [.pointer t,.pointer (some cap),.pointer (some cap1)] [.one .slice,.one .bool]:=cod 12 [] [] [] f238
def Sh.jt:PR:=λR w=>
nwb w [.int .u64 0,.int .u64 0,.int .u64 0,.pointer none,.pointer none,.pointer none,.int .u64 0,.int .u64 0,.int .u64 0,.int .u64 0] T.abK λb w1=>
cl Pg F.iU [] w1 [.agg [.int .u64,.int .i64,.int .u64,.int .u64,.int .i64,.int .u64,.int .u64,.int .i64,.int .u64]] λ(r:Int)(r1:Int)(r2:Int)(r3:Int)(r4:Int)(r5:Int)(r6:Int)(r7:Int)(r8:Int) w2=>
Jn [] (λJ0=>
Lp [.int .i64] (λ(x:Int) w3 C0=>
cond (decide ((x:Int)<3)) (
inr x 3 (ixq (.int .u64) [.int .u64 r,.int .i64 r1,.int .u64 r2,.int .u64 r3,.int .i64 r4,.int .u64 r5,.int .u64 r6,.int .i64 r7,.int .u64 r8] ((Int.toNat x*3)+0) λ(v:Int)=>
ixq (.int .i64) [.int .u64 r,.int .i64 r1,.int .u64 r2,.int .u64 r3,.int .i64 r4,.int .u64 r5,.int .u64 r6,.int .i64 r7,.int .u64 r8] ((Int.toNat x*3)+1) λ(_:Int)=>
ixq (.int .u64) [.int .u64 r,.int .i64 r1,.int .u64 r2,.int .u64 r3,.int .i64 r4,.int .u64 r5,.int .u64 r6,.int .i64 r7,.int .u64 r8] ((Int.toNat x*3)+2) λ(_:Int)=>
nwv w3 λw4=>
nwv w4 λw5=>
ixp ⟨b,0,none⟩ x 3 1 λa=>
stc w5.drew a (.int .u64 v) λw6=>
cl Pg F.i9 [.int .u64 v] w6.drew [.one .ptr,.one (.int .i64)] λ(p:OA)(_:Int) w7=>
ixp (Addr.add ⟨b,0,none⟩ 3) x 3 1 λa1=>
stc w7 a1 (.pointer p) λw8=>
bnd (wi (x+1)) λn=>
C0 n w8)) (
J0 w3)) 0 w2) fun  w9=>
ixp (Addr.add ⟨b,0,none⟩ 3) 1 3 1 λa2=>
ldc (.ptr) w9.drew a2 λ(v3:OA)=>
ixp ⟨b,0,none⟩ 0 3 1 λa3=>
ldc (.int .u64) w9.drew a3 λ(v4:Int)=>
cl Pg F.eF [.pointer v3,.int .u64 v4] w9.drew [.one (.int .u64),.one .bool] λ(r10:Int)(_:Bool) w10=>
stc w10 (Addr.add ⟨b,0,none⟩ 6) (.int .u64 r10) λw11=>
ixp (Addr.add ⟨b,0,none⟩ 3) 2 3 1 λa4=>
ldc (.ptr) w11.drew a4 λ(v5:OA)=>
ixp (Addr.add ⟨b,0,none⟩ 3) 2 3 1 λa5=>
ldc (.ptr) w11.drew a5 λ(v6:OA)=>
ixp ⟨b,0,none⟩ 0 3 1 λa6=>
ldc (.int .u64) w11.drew a6 λ(v7:Int)=>
ixp ⟨b,0,none⟩ 1 3 1 λa7=>
ldc (.int .u64) w11.drew a7 λ(v8:Int)=>
cl Pg F.bf [.pointer v6,.int .u64 v7,.int .u64 v8] w11.drew [.one (.int .u64)] λ(r11:Int) w12=>
hld w12 [(a4,.pointer v5)] <|
cl Pg F.eF [.pointer v5,.int .u64 r11] w12 [.one (.int .u64),.one .bool] λ(r12:Int)(_:Bool) w13=>
stc w13 (Addr.add ⟨b,0,none⟩ 7) (.int .u64 r12) λw14=>
ixp ⟨b,0,none⟩ 0 3 1 λa8=>
ldc (.int .u64) w14.drew a8 λ(v9:Int)=>
ixp ⟨b,0,none⟩ 1 3 1 λa9=>
ldc (.int .u64) w14.drew a9 λ(v10:Int)=>
cl Pg F.aL [.int .u64 v9,.int .u64 v10] w14.drew [.one (.int .u64),.one (.int .u64)] λ(r13:Int)(r14:Int) w15=>
stc w15 (Addr.add ⟨b,0,none⟩ 8) (.int .u64 r13) λw16=>
stc w16 (Addr.add ⟨b,0,none⟩ 9) (.int .u64 r14) λw17=>
R (.pointer (some ⟨b,0,none⟩)) w17
theorem Ct.jt:CG Sh.jt F.jt [] [.one .ptr]:=cod 96 [(3,96)] [(96,3)] [(2,0,[]),(3,3,[(7,.one (.int .i64))])] f253
def Sh.jA(n:Int):PR:=λR w=>
bnd (wi (n-1)) λn1=>
bnd (wu (n1)) λn2=>
cl Pg F.fI [.int .u64 n2] w [.one (.int .i64)] λ(r:Int) w1=>
R (.int .i64 r) w1
theorem Ct.jA:CG (Sh.jA n) F.jA [.int .i64 n] [.one (.int .i64)]:=cod 7 [] [] [] f255
def Sh.fO(c:Option Addr)(r0:Int)(r1:Int)(r2:Int):PR:=λR w=>
nwv w λw1=>
nck c λa=>
ixp (a.add 3) 1 3 1 λa1=>
ldc (.ptr) w1.drew a1 λ(v:OA)=>
nck c λa2=>
ixp (a2.add 3) 1 3 1 λa3=>
ldc (.ptr) w1.drew a3 λ(v1:OA)=>
nck c λa4=>
ldc (.int .u64) w1.drew (a4.add 6) λ(v2:Int)=>
cl Pg F.fB [.pointer v1,.int .u64 r1,.int .u64 r0] w1.drew [.one (.int .u64)] λ(r:Int) w2=>
hld w2 [((a4.add 6),.int .u64 v2),(a1,.pointer v)] <|
cl Pg F.bf [.pointer v,.int .u64 r,.int .u64 v2] w2 [.one (.int .u64)] λ(r3:Int) w3=>
nck c λa5=>
ixp a5 0 3 1 λa6=>
ldc (.int .u64) w3 a6 λ(v3:Int)=>
cl Pg F.aL [.int .u64 v3,.int .u64 r3] w3 [.one (.int .u64),.one (.int .u64)] λ(r4:Int)(r5:Int) w4=>
gv r5 r0 0 λs c1=>
bnd (wu (r4+c1)) λn=>
nck c λa7=>
ixp (a7.add 3) 2 3 1 λa8=>
ldc (.ptr) w4.drew a8 λ(v4:OA)=>
nck c λa9=>
ixp (a9.add 3) 2 3 1 λa10=>
ldc (.ptr) w4.drew a10 λ(v5:OA)=>
nck c λa11=>
ixp (a11.add 3) 2 3 1 λa12=>
ldc (.ptr) w4.drew a12 λ(v6:OA)=>
cl Pg F.bf [.pointer v6,.int .u64 n,.int .u64 9223372036854775808] w4.drew [.one (.int .u64)] λ(r6:Int) w5=>
hld w5 [(a10,.pointer v5),(a8,.pointer v4)] <|
cl Pg F.bf [.pointer v5,.int .u64 r6,.int .u64 2] w5 [.one (.int .u64)] λ(r7:Int) w6=>
hld w6 [(a8,.pointer v4)] <|
cl Pg F.dw [.pointer v4,.int .u64 r7,.int .u64 s] w6 [.one (.int .u64)] λ(r8:Int) w7=>
nck c λa13=>
ixp (a13.add 3) 2 3 1 λa14=>
ldc (.ptr) w7.drew a14 λ(v7:OA)=>
nck c λa15=>
ixp (a15.add 3) 2 3 1 λa16=>
ldc (.ptr) w7.drew a16 λ(v8:OA)=>
nck c λa17=>
ldc (.int .u64) w7.drew (a17.add 7) λ(v9:Int)=>
cl Pg F.fB [.pointer v8,.int .u64 r2,.int .u64 r8] w7.drew [.one (.int .u64)] λ(r9:Int) w8=>
hld w8 [((a17.add 7),.int .u64 v9),(a14,.pointer v7)] <|
cl Pg F.bf [.pointer v7,.int .u64 r9,.int .u64 v9] w8 [.one (.int .u64)] λ(r10:Int) w9=>
nck c λa18=>
ldc (.int .u64) w9 (a18.add 9) λ(v10:Int)=>
cl Pg F.aL [.int .u64 v10,.int .u64 r10] w9 [.one (.int .u64),.one (.int .u64)] λ(r11:Int)(r12:Int) w10=>
nck c λa19=>
ldc (.int .u64) w10 (a19.add 8) λ(v11:Int)=>
cl Pg F.aL [.int .u64 v11,.int .u64 r10] w10 [.one (.int .u64),.one (.int .u64)] λ(r13:Int)(r14:Int) w11=>
nwv w11 λw12=>
gv r12 s 0 λs1 c2=>
nwv w12 λw13=>
gv r11 r14 0 λs2 c3=>
gv s2 n c2 λs3 c4=>
nwv w13 λw14=>
bnd (wu (r13+c3)) λn1=>
bnd (wu (n1+c4)) λn2=>
nwv w14 λw15=>
nwv w15 λw16=>
R (.agg #[.int .u64 s1,.int .u64 s3,.int .u64 n2]) w16
theorem Ct.fO{c:Option Addr}{r0:Int}{r1:Int}{r2:Int}:CG (Sh.fO c r0 r1 r2) F.fO [.pointer c,.int .u64 r0,.int .u64 r1,.int .u64 r2] [.agg [.int .u64,.int .u64,.int .u64]]:=cod 143 [(8,143),(19,146)] [(143,3),(146,3)] [] f256
end
section
set_option maxRecDepth 100000
open Go.Proofs.Tryz
variable {e0:Option Addr} {a b:Sl} {n:Int}
def Sh.ay(e0:Option Addr)(a:Sl)(b:Sl):PR:=λR w=>
cl Pg F.aO [a.v] w [.one (.int .i64)] λ(r:Int) w1=>
cl Pg F.aO [b.v] w1 [.one (.int .i64)] λ(r1:Int) w2=>
cond ((r1:Int) == 0) (
R (.tuple #[.slice none 0 0,.slice none 0 0,.int .i64 2]) w2) (
Jn [.bool] (λJ0=>
cond (decide ((r:Int)<r1)) (
J0 true w2) (
nck e0 λa1=>
ldc (.ptr) w2 a1 λ(v:OA)=>
ch 5 w2 v λ(v6:OA)=>
nck v6 λa8=>
ldc (.int .i64) w2 ((a8.add 3).add 3) λ(v7:Int)=>
cond (decide ((r1:Int)<v7)) (
J0 true w2) (
bnd (wi (r-r1)) λn=>
bnd (wi (n+1)) λn1=>
ch 6 w2 e0 λ(v14:OA)=>
nck v14 λa16=>
ldc (.int .i64) w2 ((a16.add 3).add 3) λ(v15:Int)=>
J0 (decide ((n1:Int)<v15)) w2))) λ(x:Bool) w3=>
cond x (
nck e0 λa17=>
ldc (.ptr) w3 a17 λ(v16:OA)=>
nck v16 λa18=>
ldc (.ptr) w3 a18 λ(v17:OA)=>
cl Pg F.bL [.pointer v17,a.v,b.v] w3 [.one .slice,.one .slice,.one (.int .i64)] λ(s:Sl)(s1:Sl)(r2:Int) w4=>
R (.tuple #[s.v,s1.v,.int .i64 r2]) w4) (
Jn [.bool] (λJ1=>
ch 6 w3 e0 λ(v24:OA)=>
nck v24 λa26=>
ldc (.int .i64) w3 ((a26.add 3).add 4) λ(v25:Int)=>
cond (decide ((r1:Int)≥v25)) (
J1 (decide ((r:Int)≤16384)) w3) (
J1 false w3)) λ(x1:Bool) w5=>
cond x1 (
cl Pg F.dO [.pointer e0,a.v,b.v] w5 [.one .slice,.one .slice] λ(s2:Sl)(s3:Sl) w6=>
R (.tuple #[s2.v,s3.v,.int .i64 0]) w6) (
cl Pg F.dR [.pointer e0,a.v,b.v] w5 [.one .slice,.one .slice,.one (.int .i64)] λ(s4:Sl)(s5:Sl)(r3:Int) w7=>
R (.tuple #[s4.v,s5.v,.int .i64 r3]) w7)))
theorem Ct.ay:CG (Sh.ay e0 a b) F.ay [.pointer e0,a.v,b.v] [.one .slice,.one .slice,.one (.int .i64)]:=cod 147 [] [] [(0,4,[(18,.one .bool)]),(0,6,[(98,.one .bool)])] f102
def Sh.eJ(e0:Option Addr)(a:Sl)(b:Sl):PR:=λR w=>
cl Pg F.ay [.pointer e0,a.v,b.v] w [.one .slice,.one .slice,.one (.int .i64)] λ(s:Sl)(s1:Sl)(r:Int) w1=>
cond ((r:Int) != 0) (
R (.tuple #[.slice none 0 0,.int .i64 r]) w1) (
cl Pg F.aB [s1.v] w1 [.one .bool] λ(ok:Bool) w2=>
cond (!ok) (
R (.tuple #[.slice none 0 0,.int .i64 5]) w2) (
R (.tuple #[s.v,.int .i64 0]) w2))
theorem Ct.eJ:CG (Sh.eJ e0 a b) F.eJ [.pointer e0,a.v,b.v] [.one .slice,.one (.int .i64)]:=cod 26 [] [] [] f103
def Sh.dO(e0:Option Addr)(a:Sl)(b:Sl):PR:=λR w=>
cl Pg F.aO [a.v] w [.one (.int .i64)] λ(r:Int) w1=>
bnd (wi (64*r)) λn=>
nck e0 λa1=>
ldc (.ptr) w1 a1 λ(v:OA)=>
cl Pg F.cZ [.pointer v,b.v,.int .i64 n] w1 [.one .slice,.one (.int .i64)] λ(s:Sl)(_:Int) w2=>
ch 2 w2 e0 λ(v3:OA)=>
cl Pg F.au [.pointer v3,a.v,s.v] w2 [.one .slice] λ(s1:Sl) w3=>
cl Pg F.bU [s1.v,.int .i64 n] w3 [.one .slice] λ(s2:Sl) w4=>
ch 2 w4 e0 λ(v6:OA)=>
cl Pg F.au [.pointer v6,s2.v,b.v] w4 [.one .slice] λ(s3:Sl) w5=>
cl Pg F.aP [a.v,s3.v] w5 [.one .slice,.one .bool] λ(s4:Sl)(_:Bool) w6=>
Jn [.slice,.slice] (λJ0=>
Lp [.slice,.slice] (λ(q:Sl)(r2:Sl) w7 C0=>
cl Pg F.cO [r2.v,b.v] w7 [.one (.int .i64)] λ(r3:Int) w8=>
cond (decide ((r3:Int)≥0)) (
cl Pg F.aP [r2.v,b.v] w8 [.one .slice,.one .bool] λ(s5:Sl)(_:Bool) w9=>
cl Pg F.aX [.int .u64 1] w9 [.one .slice] λ(s6:Sl) w10=>
cl Pg F.bG [q.v,s6.v] w10 [.one .slice] λ(s7:Sl) w11=>
C0 s7 s5 w11) (
J0 q r2 w8)) s2 s4 w6) λ(q1:Sl)(r4:Sl) w12=>
R (.tuple #[q1.v,r4.v]) w12
theorem Ct.dO:CG (Sh.dO e0 a b) F.dO [.pointer e0,a.v,b.v] [.one .slice,.one .slice]:=cod 72 [] [] [(2,0,[(6,.one .slice),(7,.one .slice)]),(3,5,[(6,.one .slice),(7,.one .slice)])] f127
def Sh.dR(e0:Option Addr)(a:Sl)(b:Sl):PR:=λR w=>
cl Pg F.aO [b.v] w [.one (.int .i64)] λ(r:Int) w1=>
cond ((r:Int) == 0) (
R (.tuple #[.slice none 0 0,.slice none 0 0,.int .i64 2]) w1) (
cl Pg F.cO [a.v,b.v] w1 [.one (.int .i64)] λ(r1:Int) w2=>
cond (decide ((r1:Int)<0)) (
cl Pg F.aF [a.v] w2 [.one .slice] λ(s:Sl) w3=>
R (.tuple #[.slice none 0 0,s.v,.int .i64 0]) w3) (
Jn [.int .i64,.int .i64] (λJ0=>
Lp [.int .i64,.int .i64] (λ(n:Int)(half:Int) w4 C0=>
nck e0 λa1=>
ldc (.ptr) w4 a1 λ(v:OA)=>
ch 5 w4 v λ(v6:OA)=>
nck v6 λa8=>
ldc (.int .i64) w4 ((a8.add 3).add 3) λ(v7:Int)=>
cond (decide ((n:Int)≥v7)) (
bnd (wi (n+1)) λn1=>
d9 .i64 n1 2 λn2=>
bnd (wi (half+1)) λn3=>
C0 n2 n3 w4) (
J0 n half w4)) r 0 w2) λ(n4:Int)(half1:Int) w5=>
bnd (wu (half1)) λn5=>
jv .i64 n4 n5 λn6=>
bnd (wi (n6-r)) λn7=>
bnd (wi (64*n7)) λn8=>
bnd (wi (r-1)) λn9=>
ixa b n9 1 λa9=>
ldc (.int .u64) w5 a9 λ(v8:Int)=>
cl Pg F.bv [.int .u64 v8] w5 [.one (.int .i64)] λ(r2:Int) w6=>
bnd (wi (n8+r2)) λn10=>
cl Pg F.bV [b.v,.int .i64 n10] w6 [.one .slice] λ(s1:Sl) w7=>
cl Pg F.bV [a.v,.int .i64 n10] w7 [.one .slice] λ(s2:Sl) w8=>
bnd (wi ((s2.n:Int)+n6)) λn11=>
bnd (wi (n11-1)) λn12=>
d9 .i64 n12 n6 λn13=>
bnd (wi (n13-1)) λn14=>
Jn [.slice,.slice] (λJ1=>
Lp [.slice,.slice,.int .i64] (λ(r3:Sl)(parts:Sl)(i:Int) w9 C1=>
cond (decide ((i:Int)≥0)) (
bnd (wi (i*n6)) λn15=>
cl Pg F.jO [s2.v,.int .i64 n15,.int .i64 n6] w9 [.one .slice] λ(s3:Sl) w10=>
nwb w10 [s3.v,r3.v] T.bP λb1 w11=>
cl Pg F.cq [.int .i64 n6,.slice (some ⟨b1,0,none⟩) 2 2] w11 [.one .slice] λ(s4:Sl) w12=>
cl Pg F.eT [.pointer e0,s4.v,s1.v,.int .i64 n6] w12 [.one .slice,.one .slice] λ(s5:Sl)(s6:Sl) w13=>
nwb w13 [s5.v] T.bP λb2 w14=>
apd w14 T.bP 1 24 parts ⟨(some ⟨b2,0,none⟩),1,1⟩ λs7 w15=>
bnd (wi (i-1)) λn16=>
C1 s6 s7 n16 w15) (
J1 r3 parts w9)) Sl.nil Sl.nil n14 w8) λ(r4:Sl)(parts1:Sl) w16=>
bnd (wi ((parts1.n:Int)-1)) λn17=>
Jn [] (λJ2=>
Lp [.int .i64,.int .i64] (λ(i1:Int)(j:Int) w17 C2=>
cond (decide ((i1:Int)<j)) (
ixa parts1 j 1 λa10=>
ldc (.slice) w17.drew a10 λ(v9:Sl)=>
ixa parts1 i1 1 λa11=>
ldc (.slice) w17.drew a11 λ(v10:Sl)=>
ixa parts1 i1 1 λa12=>
stc w17.drew a12 v9.v λw18=>
ixa parts1 j 1 λa13=>
stc w18 a13 v10.v λw19=>
bnd (wi (i1+1)) λn18=>
bnd (wi (j-1)) λn19=>
C2 n18 n19 w19) (
J2 w17)) 0 n17 w16) fun  w20=>
cl Pg F.cq [.int .i64 n6,parts1.v] w20 [.one .slice] λ(s8:Sl) w21=>
cl Pg F.bU [r4.v,.int .i64 n10] w21 [.one .slice] λ(s9:Sl) w22=>
R (.tuple #[s8.v,s9.v,.int .i64 0]) w22))
theorem Ct.dR:CG (Sh.dR e0 a b) F.dR [.pointer e0,a.v,b.v] [.one .slice,.one .slice,.one (.int .i64)]:=cod 150 [] [] [(2,0,[(10,.one (.int .i64)),(11,.one (.int .i64))]),(3,7,[(10,.one (.int .i64)),(11,.one (.int .i64))]),(2,2,[(7,.one .slice),(15,.one .slice)]),(3,17,[(7,.one .slice),(15,.one .slice),(17,.one (.int .i64))]),(2,4,[]),(3,23,[(19,.one (.int .i64)),(20,.one (.int .i64))])] f128
def Sh.eT(e0:Option Addr)(a:Sl)(b:Sl)(n:Int):PR:=λR w=>
Jn [.bool] (λJ0=>
dV n 2 λn1=>
cond ((n1:Int) == 1) (
J0 true w) (
nck e0 λa1=>
ldc (.ptr) w a1 λ(v:OA)=>
ch 5 w v λ(v6:OA)=>
nck v6 λa8=>
ldc (.int .i64) w ((a8.add 3).add 3) λ(v7:Int)=>
J0 (decide ((n:Int)<v7)) w)) λ(x:Bool) w1=>
cond x (
nck e0 λa9=>
ldc (.ptr) w1 a9 λ(v8:OA)=>
nck v8 λa10=>
ldc (.ptr) w1 a10 λ(v9:OA)=>
cl Pg F.bL [.pointer v9,a.v,b.v] w1 [.one .slice,.one .slice,.one (.int .i64)] λ(s:Sl)(s1:Sl)(_:Int) w2=>
R (.tuple #[s.v,s1.v]) w2) (
ch 6 w1 e0 λ(v16:OA)=>
nck v16 λa18=>
cl Pg F.br [.pointer (some a18)] w1 [.one (.int .i64)] λ(_:Int) w3=>
d9 .i64 n 2 λn2=>
cl Pg F.gf [a.v,.int .i64 n2] w3 [.one .slice,.one .slice] λ(s2:Sl)(s3:Sl) w4=>
cl Pg F.dq [.pointer e0,s3.v,b.v,.int .i64 n2] w4 [.one .slice,.one .slice] λ(s4:Sl)(s5:Sl) w5=>
nwb w5 [s2.v,s5.v] T.bP λb1 w6=>
cl Pg F.cq [.int .i64 n2,.slice (some ⟨b1,0,none⟩) 2 2] w6 [.one .slice] λ(s6:Sl) w7=>
cl Pg F.dq [.pointer e0,s6.v,b.v,.int .i64 n2] w7 [.one .slice,.one .slice] λ(s7:Sl)(s8:Sl) w8=>
ch 6 w8 e0 λ(v23:OA)=>
nck v23 λa26=>
cl Pg F.bq [.pointer (some a26)] w8 [.one (.int .i64)] λ(_:Int) w9=>
nwb w9 [s7.v,s4.v] T.bP λb2 w10=>
cl Pg F.cq [.int .i64 n2,.slice (some ⟨b2,0,none⟩) 2 2] w10 [.one .slice] λ(s9:Sl) w11=>
R (.tuple #[s9.v,s8.v]) w11)
theorem Ct.eT:CG (Sh.eT e0 a b n) F.eT [.pointer e0,a.v,b.v,.int .i64 n] [.one .slice,.one .slice]:=cod 148 [] [] [(0,1,[(47,.one .bool)])] f162
def Sh.jO(a:Sl)(from0:Int)(n:Int):PR:=λR w=>
cond (decide ((from0:Int)≥(a.n:Int))) (
R (.slice none 0 0) w) (
bnd (wi (from0+n)) λn1=>
bnd (if (n1:Int)<(a.n:Int) then n1 else (a.n:Int)) λn2=>
slc a from0 n2 1 λs=>
cl Pg F.aF [s.v] w [.one .slice] λ(s1:Sl) w1=>
R (s1.v) w1)
theorem Ct.jO{from0:Int}:CG (Sh.jO a from0 n) F.jO [a.v,.int .i64 from0,.int .i64 n] [.one .slice]:=cod 21 [] [] [] f164
def Sh.dq(e0:Option Addr)(a:Sl)(b:Sl)(h0:Int):PR:=λR w=>
cl Pg F.gf [b.v,.int .i64 h0] w [.one .slice,.one .slice] λ(s:Sl)(s1:Sl) w1=>
cl Pg F.gf [a.v,.int .i64 h0] w1 [.one .slice,.one .slice] λ(s2:Sl)(s3:Sl) w2=>
cl Pg F.gf [s3.v,.int .i64 h0] w2 [.one .slice,.one .slice] λ(_:Sl)(s5:Sl) w3=>
cl Pg F.cO [s5.v,s1.v] w3 [.one (.int .i64)] λ(r:Int) w4=>
Jn [.slice,.slice] (λJ0=>
cond (decide ((r:Int)<0)) (
cl Pg F.eT [.pointer e0,s3.v,s1.v,.int .i64 h0] w4 [.one .slice,.one .slice] λ(s6:Sl)(s7:Sl) w5=>
J0 s6 s7 w5) (
cl Pg F.aX [.int .u64 1] w4 [.one .slice] λ(s8:Sl) w6=>
nwb w6 [.slice none 0 0,s8.v] T.bP λb1 w7=>
cl Pg F.cq [.int .i64 h0,.slice (some ⟨b1,0,none⟩) 2 2] w7 [.one .slice] λ(s9:Sl) w8=>
cl Pg F.aX [.int .u64 1] w8 [.one .slice] λ(s10:Sl) w9=>
cl Pg F.aP [s9.v,s10.v] w9 [.one .slice,.one .bool] λ(s11:Sl)(_:Bool) w10=>
cl Pg F.bG [s3.v,s1.v] w10 [.one .slice] λ(s12:Sl) w11=>
nwb w11 [.slice none 0 0,s1.v] T.bP λb2 w12=>
cl Pg F.cq [.int .i64 h0,.slice (some ⟨b2,0,none⟩) 2 2] w12 [.one .slice] λ(s13:Sl) w13=>
cl Pg F.aP [s12.v,s13.v] w13 [.one .slice,.one .bool] λ(s14:Sl)(_:Bool) w14=>
J0 s11 s14 w14)) λ(q:Sl)(r1:Sl) w15=>
nwb w15 [s2.v,r1.v] T.bP λb3 w16=>
cl Pg F.cq [.int .i64 h0,.slice (some ⟨b3,0,none⟩) 2 2] w16 [.one .slice] λ(s15:Sl) w17=>
nck e0 λa1=>
ldc (.ptr) w17 a1 λ(v:OA)=>
nck v λa2=>
ldc (.ptr) w17 a2 λ(v1:OA)=>
nck v1 λa3=>
ldc (.ptr) w17 a3 λ(v2:OA)=>
cl Pg F.au [.pointer v2,q.v,s.v] w17 [.one .slice] λ(s16:Sl) w18=>
Jn [.slice,.slice] (λJ1=>
Lp [.slice,.slice] (λ(q1:Sl)(r2:Sl) w19 C0=>
cl Pg F.cO [r2.v,s16.v] w19 [.one (.int .i64)] λ(r3:Int) w20=>
cond (decide ((r3:Int)<0)) (
cl Pg F.aX [.int .u64 1] w20 [.one .slice] λ(s17:Sl) w21=>
cl Pg F.aP [q1.v,s17.v] w21 [.one .slice,.one .bool] λ(s18:Sl)(_:Bool) w22=>
cl Pg F.bG [r2.v,b.v] w22 [.one .slice] λ(s19:Sl) w23=>
C0 s18 s19 w23) (
J1 q1 r2 w20)) q s15 w18) λ(q2:Sl)(r4:Sl) w24=>
cl Pg F.aP [r4.v,s16.v] w24 [.one .slice,.one .bool] λ(s20:Sl)(_:Bool) w25=>
R (.tuple #[q2.v,s20.v]) w25
theorem Ct.dq{h0:Int}:CG (Sh.dq e0 a b h0) F.dq [.pointer e0,a.v,b.v,.int .i64 h0] [.one .slice,.one .slice]:=cod 106 [] [] [(1,5,[(8,.one .slice),(9,.one .slice)]),(2,0,[(8,.one .slice),(9,.one .slice)]),(3,10,[(8,.one .slice),(9,.one .slice)])] f196
def Sh.mu(t:HL I11):PR:=λR w=>
nwv w λw1=>
cl Pg F.kh [.agg (aM I11 t).toArray] w1 [.one .ptr] λ(p:OA) w2=>
nwb w2 [.pointer p] T.yJ λb w3=>
R (.pointer (some ⟨b,0,none⟩)) w3
theorem Ct.mu{t:HL I11}:CG (Sh.mu t) F.mu [.agg (aM I11 t).toArray] [.one .ptr]:=cod 7 [(1,7)] [(7,11)] [] f267
end
section
set_option maxRecDepth 100000
open Go.Proofs.Tryz
def Sh.bL(e0:Option Addr)(a:Sl)(b:Sl):PR:=λR w=>
cl Pg F.aO [a.v] w [.one (.int .i64)] λ(r:Int) w1=>
cl Pg F.aO [b.v] w1 [.one (.int .i64)] λ(r1:Int) w2=>
cond ((r1:Int) == 0) (
R (.tuple #[.slice none 0 0,.slice none 0 0,.int .i64 2]) w2) (
cond (decide ((r:Int)<r1)) (
cl Pg F.aF [a.v] w2 [.one .slice] λ(s:Sl) w3=>
R (.tuple #[.slice none 0 0,s.v,.int .i64 0]) w3) (
nck e0 λa1=>
ldc (.ptr) w2 a1 λ(v:OA)=>
ch 3 w2 v λ(v4:OA)=>
nck v4 λa6=>
bnd (wi (r-r1)) λn=>
bnd (wi (n+1)) λn1=>
bnd (wi (r1+1)) λn2=>
bnd (wi (n1*n2)) λn3=>
cl Pg F.aS [.pointer (some a6),.int .i64 n3] w2 [.one (.int .i64)] λ(_:Int) w4=>
cond ((r1:Int) == 1) (
ixa b 0 1 λa7=>
ldc (.int .u64) w4 a7 λ(v5:Int)=>
cl Pg F.dx [a.v,.int .u64 v5] w4 [.one .slice,.one (.int .u64),.one (.int .i64)] λ(s1:Sl)(r3:Int)(_:Int) w5=>
cl Pg F.aX [.int .u64 r3] w5 [.one .slice] λ(s2:Sl) w6=>
R (.tuple #[s1.v,s2.v,.int .i64 0]) w6) (
bnd (wi (r1-1)) λn4=>
ixa b n4 1 λa8=>
ldc (.int .u64) w4 a8 λ(v6:Int)=>
cl Pg F.bv [.int .u64 v6] w4 [.one (.int .i64)] λ(r5:Int) w7=>
cl Pg F.bV [b.v,.int .i64 r5] w7 [.one .slice] λ(s3:Sl) w8=>
bnd (wi (r+1)) λn5=>
mks w8 n5 n5 T.an 8 [.int .u64 0] λs4 w9=>
cl Pg F.bV [a.v,.int .i64 r5] w9 [.one .slice] λ(s5:Sl) w10=>
cpy w10 T.an s4 s5 λ_ w11=>
bnd (wi (r1-1)) λn7=>
ixa s3 n7 1 λa9=>
ldc (.int .u64) w11.drew a9 λ(v7:Int)=>
bnd (wi (r1-2)) λn8=>
ixa s3 n8 1 λa10=>
ldc (.int .u64) w11.drew a10 λ(v8:Int)=>
cl Pg F.gm [.int .u64 v7,.int .u64 v8] w11.drew [.one (.int .u64),.one .bool] λ(r6:Int)(_:Bool) w12=>
bnd (wi (r-r1)) λn9=>
bnd (wi (n9+1)) λn10=>
mks w12 n10 n10 T.an 8 [.int .u64 0] λs6 w13=>
bnd (wi (r-r1)) λn11=>
Jn [] (λJ0=>
Lp [.int .i64] (λ(j:Int) w14 C0=>
cond (decide ((j:Int)≥0)) (
bnd (wi (j+r1)) λn12=>
bnd (wi (n12+1)) λn13=>
slc s4 j n13 1 λs7=>
cl Pg F.js [s7.v,s3.v,.int .u64 r6] w14 [.one (.int .u64)] λ(r7:Int) w15=>
ixa s6 j 1 λa11=>
stc w15 a11 (.int .u64 r7) λw16=>
bnd (wi (j-1)) λn14=>
C0 n14 w16) (
J0 w14)) n11 w13) fun  w17=>
cl Pg F.aF [s6.v] w17 [.one .slice] λ(s8:Sl) w18=>
cl Pg F.bU [s4.v,.int .i64 r5] w18 [.one .slice] λ(s9:Sl) w19=>
R (.tuple #[s8.v,s9.v,.int .i64 0]) w19)))
theorem Ct.bL{e0:Option Addr}{a:Sl}{b:Sl}:CG (Sh.bL e0 a b) F.bL [.pointer e0,a.v,b.v] [.one .slice,.one .slice,.one (.int .i64)]:=cod 133 [] [] [(2,0,[]),(3,17,[(20,.one (.int .i64))])] f126
def Sh.js(u:Sl)(d:Sl)(v:Int):PR:=λR w=>
ixa u (d.n:Int) 1 λa=>
ldc (.int .u64) w.drew a λ(v1:Int)=>
bnd (wi ((d.n:Int)-1)) λn=>
ixa u n 1 λa1=>
ldc (.int .u64) w.drew a1 λ(v2:Int)=>
bnd (wi ((d.n:Int)-2)) λn1=>
ixa u n1 1 λa2=>
ldc (.int .u64) w.drew a2 λ(v3:Int)=>
bnd (wi ((d.n:Int)-1)) λn2=>
ixa d n2 1 λa3=>
ldc (.int .u64) w.drew a3 λ(v4:Int)=>
bnd (wi ((d.n:Int)-2)) λn3=>
ixa d n3 1 λa4=>
ldc (.int .u64) w.drew a4 λ(v5:Int)=>
cl Pg F.jG [.int .u64 v1,.int .u64 v2,.int .u64 v3,.int .u64 v4,.int .u64 v5,.int .u64 v] w.drew [.one (.int .u64),.one (.int .u64),.one (.int .u64),.one .bool] λ(r:Int)(_:Int)(_:Int)(ok:Bool) w1=>
Jn [.int .u64] (λJ0=>
cond (!ok) (
J0 18446744073709551615 w1) (
J0 r w1)) λ(q:Int) w2=>
Jn [.int .u64] (λJ1=>
Lp [.int .u64,.int .i64] (λ(c:Int)(i:Int) w3 C0=>
cond (decide ((i:Int)<(d.n:Int))) (
ixa d i 1 λa5=>
ldc (.int .u64) w3 a5 λ(v6:Int)=>
cl Pg F.aL [.int .u64 q,.int .u64 v6] w3 [.one (.int .u64),.one (.int .u64)] λ(r3:Int)(r4:Int) w4=>
gv r4 c 0 λs c1=>
bnd (wu (r3+c1)) λn4=>
ixa u i 1 λa6=>
ldc (.int .u64) w4 a6 λ(v7:Int)=>
kP v7 s 0 λs1 c2=>
ixa u i 1 λa7=>
stc w4 a7 (.int .u64 s1) λw5=>
bnd (wu (n4+c2)) λn5=>
bnd (wi (i+1)) λn6=>
C0 n5 n6 w5) (
J1 c w3)) 0 0 w2) λ(c3:Int) w6=>
ixa u (d.n:Int) 1 λa8=>
ldc (.int .u64) w6 a8 λ(v8:Int)=>
kP v8 c3 0 λs2 c4=>
ixa u (d.n:Int) 1 λa9=>
stc w6 a9 (.int .u64 s2) λw7=>
Jn [.int .u64] (λJ2=>
Lp [.int .u64,.int .u64] (λ(q1:Int)(k:Int) w8 C1=>
cond ((k:Int) != 0) (
bnd (wu (q1-1)) λn7=>
Jn [.int .u64] (λJ3=>
Lp [.int .u64,.int .i64] (λ(c5:Int)(i1:Int) w9 C2=>
cond (decide ((i1:Int)<(d.n:Int))) (
ixa u i1 1 λa10=>
ldc (.int .u64) w9.drew a10 λ(v9:Int)=>
ixa d i1 1 λa11=>
ldc (.int .u64) w9.drew a11 λ(v10:Int)=>
gv v9 v10 c5 λs3 c6=>
ixa u i1 1 λa12=>
stc w9.drew a12 (.int .u64 s3) λw10=>
bnd (wi (i1+1)) λn8=>
C2 c6 n8 w10) (
J3 c5 w9)) 0 0 w8) λ(c7:Int) w11=>
ixa u (d.n:Int) 1 λa13=>
ldc (.int .u64) w11 a13 λ(v11:Int)=>
gv v11 0 c7 λs4 c8=>
ixa u (d.n:Int) 1 λa14=>
stc w11 a14 (.int .u64 s4) λw12=>
bnd (wu (k-c8)) λn9=>
C1 n7 n9 w12) (
J2 q1 w8)) q c4 w7) λ(q2:Int) w13=>
R (.int .u64 q2) w13
theorem Ct.js{u:Sl}{d:Sl}{v:Int}:CG (Sh.js u d v) F.js [u.v,d.v,.int .u64 v] [.one (.int .u64)]:=cod 147 [] [] [(1,4,[(8,.one (.int .u64))]),(2,0,[(12,.one (.int .u64))]),(3,7,[(12,.one (.int .u64)),(13,.one (.int .i64))]),(2,2,[(8,.one (.int .u64))]),(3,16,[(8,.one (.int .u64)),(18,.one (.int .u64))]),(2,4,[(12,.one (.int .u64))]),(3,20,[(12,.one (.int .u64)),(19,.one (.int .i64))])] f160
def Sh.kW(t:HL I11):PR:=λR w=>
nwv w λw1=>
cl Pg F.mq [.agg (aM I11 t).toArray] w1 [.one .ptr] λ(p:OA) w2=>
nwb w2 [.pointer p] T.wO λb w3=>
R (.pointer (some ⟨b,0,none⟩)) w3
theorem Ct.kW{t:HL I11}:CG (Sh.kW t) F.kW [.agg (aM I11 t).toArray] [.one .ptr]:=cod 7 [(1,7)] [(7,11)] [] f277
end
section
set_option maxRecDepth 100000
open Go.Proofs.Tryz
variable {e0:Option Addr} {a b l:Sl}
def Sh.cP(e0:Option Addr)(l:Sl):PR:=λR w=>
Jn [.slice] (λJ0=>
Lp [.slice,.int .i64] (λ(g:Sl)(x:Int) w1 C0=>
cond (decide ((x:Int)<(l.n:Int))) (
ixa l x 1 λa=>
ldc (.slice) w1 a λ(v:Sl)=>
cl Pg F.bJ [.pointer e0,g.v,v.v] w1 [.one .slice] λ(s:Sl) w2=>
bnd (wi (x+1)) λn=>
C0 s n w2) (
J0 g w1)) Sl.nil 0 w) λ(g1:Sl) w3=>
R (g1.v) w3
theorem Ct.cP:CG (Sh.cP e0 l) F.cP [.pointer e0,l.v] [.one .slice]:=cod 20 [] [] [(2,0,[(5,.one .slice)]),(3,3,[(5,.one .slice),(10,.one (.int .i64))])] f61
def Sh.eS(e0:Option Addr)(l:Sl):PR:=λR w=>
cl Pg F.aX [.int .u64 1] w [.one .slice] λ(s:Sl) w1=>
Jn [.slice] (λJ0=>
Lp [.slice,.int .i64] (λ(out:Sl)(x:Int) w2 C0=>
cond (decide ((x:Int)<(l.n:Int))) (
ixa l x 1 λa=>
ldc (.slice) w2 a λ(v:Sl)=>
cl Pg F.aB [v.v] w2 [.one .bool] λ(ok:Bool) w3=>
cond ok (
R (.slice none 0 0) w3) (
nck e0 λa1=>
ldc (.ptr) w3.drew a1 λ(v1:OA)=>
nck v1 λa2=>
ldc (.ptr) w3.drew a2 λ(v2:OA)=>
nck v2 λa3=>
ldc (.ptr) w3.drew a3 λ(v3:OA)=>
nck v3 λa4=>
ldc (.ptr) w3.drew a4 λ(v4:OA)=>
nck v4 λa5=>
ldc (.ptr) w3.drew a5 λ(v5:OA)=>
cl Pg F.bJ [.pointer e0,out.v,v.v] w3.drew [.one .slice] λ(s1:Sl) w4=>
hld w4 [(a5,.pointer v5),(a4,.pointer v4),(a3,.pointer v3),(a2,.pointer v2),(a1,.pointer v1)] <|
cl Pg F.ay [.pointer v5,v.v,s1.v] w4 [.one .slice,.one .slice,.one (.int .i64)] λ(s2:Sl)(_:Sl)(_:Int) w5=>
hld w5 [(a4,.pointer v4),(a3,.pointer v3),(a2,.pointer v2),(a1,.pointer v1)] <|
ch 7 w5 e0 λ(v13:OA)=>
cl Pg F.au [.pointer v13,out.v,s2.v] w5 [.one .slice] λ(s4:Sl) w6=>
bnd (wi (x+1)) λn=>
C0 s4 n w6)) (
J0 out w2)) s 0 w1) λ(out1:Sl) w7=>
R (out1.v) w7
theorem Ct.eS:CG (Sh.eS e0 l) F.eS [.pointer e0,l.v] [.one .slice]:=cod 76 [] [] [(2,0,[(5,.one .slice)]),(3,3,[(5,.one .slice),(14,.one (.int .i64))])] f71
def Sh.bJ(e0:Option Addr)(a:Sl)(b:Sl):PR:=λR w=>
Jn [.bool] (λJ0=>
nck e0 λa1=>
ldc (.ptr) w.drew a1 λ(v:OA)=>
nck v λa2=>
ldc (.ptr) w.drew a2 λ(v1:OA)=>
nck v1 λa3=>
ldc (.ptr) w.drew a3 λ(v2:OA)=>
nck v2 λa4=>
ldc (.ptr) w.drew a4 λ(v3:OA)=>
nck v3 λa5=>
ldc (.ptr) w.drew a5 λ(v4:OA)=>
nck v4 λa6=>
ldc (.ptr) w.drew a6 λ(v5:OA)=>
nck v5 λa7=>
ldc (.ptr) w.drew a7 λ(v6:OA)=>
nck v6 λa8=>
ldc (.ptr) w.drew a8 λ(v7:OA)=>
nck v7 λa9=>
ldc (.ptr) w.drew a9 λ(v8:OA)=>
nck v8 λa10=>
ldc (.ptr) w.drew a10 λ(v9:OA)=>
nck v9 λa11=>
ldc (.ptr) w.drew a11 λ(v10:OA)=>
nck v10 λa12=>
ldc (.ptr) w.drew a12 λ(v11:OA)=>
nck v11 λa13=>
ldc (.int .i64) w.drew ((a13.add 3).add 5) λ(v12:Int)=>
cl Pg F.aO [a.v] w.drew [.one (.int .i64)] λ(r:Int) w1=>
hld w1 [(((a13.add 3).add 5),.int .i64 v12),(a12,.pointer v11),(a11,.pointer v10),(a10,.pointer v9),(a9,.pointer v8),(a8,.pointer v7),(a7,.pointer v6),(a6,.pointer v5),(a5,.pointer v4),(a4,.pointer v3),(a3,.pointer v2),(a2,.pointer v1),(a1,.pointer v)] <|
cond (decide ((r:Int)≥v12)) (
nck e0 λa14=>
ldc (.ptr) w1 a14 λ(v13:OA)=>
nck v13 λa15=>
ldc (.ptr) w1 a15 λ(v14:OA)=>
nck v14 λa16=>
ldc (.ptr) w1 a16 λ(v15:OA)=>
nck v15 λa17=>
ldc (.ptr) w1 a17 λ(v16:OA)=>
nck v16 λa18=>
ldc (.ptr) w1 a18 λ(v17:OA)=>
nck v17 λa19=>
ldc (.ptr) w1 a19 λ(v18:OA)=>
nck v18 λa20=>
ldc (.ptr) w1 a20 λ(v19:OA)=>
nck v19 λa21=>
ldc (.ptr) w1 a21 λ(v20:OA)=>
nck v20 λa22=>
ldc (.ptr) w1 a22 λ(v21:OA)=>
nck v21 λa23=>
ldc (.ptr) w1 a23 λ(v22:OA)=>
nck v22 λa24=>
ldc (.ptr) w1 a24 λ(v23:OA)=>
nck v23 λa25=>
ldc (.ptr) w1 a25 λ(v24:OA)=>
nck v24 λa26=>
ldc (.int .i64) w1 ((a26.add 3).add 5) λ(v25:Int)=>
cl Pg F.aO [b.v] w1 [.one (.int .i64)] λ(r1:Int) w2=>
hld w2 [(((a26.add 3).add 5),.int .i64 v25),(a25,.pointer v24),(a24,.pointer v23),(a23,.pointer v22),(a22,.pointer v21),(a21,.pointer v20),(a20,.pointer v19),(a19,.pointer v18),(a18,.pointer v17),(a17,.pointer v16),(a16,.pointer v15),(a15,.pointer v14),(a14,.pointer v13),(((a13.add 3).add 5),.int .i64 v12),(a12,.pointer v11),(a11,.pointer v10),(a10,.pointer v9),(a9,.pointer v8),(a8,.pointer v7),(a7,.pointer v6),(a6,.pointer v5),(a5,.pointer v4),(a4,.pointer v3),(a3,.pointer v2),(a2,.pointer v1),(a1,.pointer v)] <|
J0 (decide ((r1:Int)≥v25)) w2) (
J0 false w1)) λ(x:Bool) w3=>
cond x (
cl Pg F.dM [.pointer e0,a.v,b.v] w3 [.one .slice] λ(s:Sl) w4=>
R (s.v) w4) (
cl Pg F.dN [.pointer e0,a.v,b.v] w3 [.one .slice] λ(s1:Sl) w5=>
R (s1.v) w5)
theorem Ct.bJ:CG (Sh.bJ e0 a b) F.bJ [.pointer e0,a.v,b.v] [.one .slice]:=cod 105 [] [] [(0,1,[(96,.one .bool)])] f90
def Sh.dM(e0:Option Addr)(a:Sl)(b:Sl):PR:=λR w=>
cl Pg F.aF [a.v] w [.one .slice] λ(s:Sl) w1=>
cl Pg F.aF [b.v] w1 [.one .slice] λ(s1:Sl) w2=>
cl Pg F.cO [s.v,s1.v] w2 [.one (.int .i64)] λ(r:Int) w3=>
Jn [.slice,.slice] (λJ0=>
cond (decide ((r:Int)<0)) (
J0 s1 s w3) (
J0 s s1 w3)) λ(a1:Sl)(b1:Sl) w4=>
Jn [.slice] (λJ1=>
Lp [.slice,.slice] (λ(a2:Sl)(b2:Sl) w5 C0=>
cond (decide (((b2.n:Int):Int)>0)) (
Jn [.slice,.slice] (λJ2=>
cl Pg F.jq [a2.v,b2.v] w5 [.agg [.int .u64,.int .u64,.int .u64,.int .u64,.int .i64]] λ(r1:Int)(r2:Int)(r3:Int)(r4:Int)(r5:Int) w6=>
nwv w6 λw7=>
nwv w7 λw8=>
cond (decide ((r5:Int)>0)) (
cl Pg F.eR [.agg #[.int .u64 r1,.int .u64 r2,.int .u64 r3,.int .u64 r4,.int .i64 r5],a2.v,b2.v] w8 [.one .slice,.one .slice] λ(s2:Sl)(s3:Sl) w9=>
J2 s2 s3 w9) (
nck e0 λa3=>
ldc (.ptr) w8 a3 λ(v:OA)=>
ch 3 w8 v λ(v4:OA)=>
cl Pg F.ay [.pointer v4,a2.v,b2.v] w8 [.one .slice,.one .slice,.one (.int .i64)] λ(_:Sl)(s5:Sl)(_:Int) w10=>
J2 b2 s5 w10)) λ(a8:Sl)(b3:Sl) w11=>
C0 a8 b3 w11) (
J1 a2 w5)) a1 b1 w4) λ(a9:Sl) w12=>
R (a9.v) w12
theorem Ct.dM:CG (Sh.dM e0 a b) F.dM [.pointer e0,a.v,b.v] [.one .slice]:=cod 63 [(7,63)] [(63,5)] [(1,3,[(1,.one .slice),(2,.one .slice)]),(2,0,[(1,.one .slice)]),(3,4,[(1,.one .slice),(2,.one .slice)]),(2,1,[(1,.one .slice),(2,.one .slice)])] f110
def Sh.dN(e0:Option Addr)(a:Sl)(b:Sl):PR:=λR w=>
cl Pg F.aB [a.v] w [.one .bool] λ(ok:Bool) w1=>
cond ok (
cl Pg F.aF [b.v] w1 [.one .slice] λ(s:Sl) w2=>
R (s.v) w2) (
cl Pg F.aB [b.v] w1 [.one .bool] λ(ok1:Bool) w3=>
cond ok1 (
cl Pg F.aF [a.v] w3 [.one .slice] λ(s1:Sl) w4=>
R (s1.v) w4) (
cl Pg F.jz [a.v] w3 [.one (.int .i64)] λ(r:Int) w5=>
cl Pg F.jz [b.v] w5 [.one (.int .i64)] λ(r1:Int) w6=>
cl Pg F.bU [a.v,.int .i64 r] w6 [.one .slice] λ(s2:Sl) w7=>
cl Pg F.bU [b.v,.int .i64 r1] w7 [.one .slice] λ(s3:Sl) w8=>
Lp [.slice,.slice] (λ(a1:Sl)(b1:Sl) w9 C0=>
cl Pg F.cO [a1.v,b1.v] w9 [.one (.int .i64)] λ(r2:Int) w10=>
cond ((r2:Int) == 0) (
bnd (if (r1:Int)<r then r1 else r) λn=>
cl Pg F.bV [a1.v,.int .i64 n] w10 [.one .slice] λ(s4:Sl) w11=>
R (s4.v) w11) (
Jn [.slice,.slice] (λJ0=>
cond (decide ((r2:Int)<0)) (
J0 b1 a1 w10) (
J0 a1 b1 w10)) λ(a2:Sl)(b2:Sl) w12=>
cl Pg F.aP [a2.v,b2.v] w12 [.one .slice,.one .bool] λ(s5:Sl)(_:Bool) w13=>
cl Pg F.jz [s5.v] w13 [.one (.int .i64)] λ(r3:Int) w14=>
cl Pg F.bU [s5.v,.int .i64 r3] w14 [.one .slice] λ(s6:Sl) w15=>
C0 s6 b2 w15)) s2 s3 w8))
theorem Ct.dN:CG (Sh.dN e0 a b) F.dN [.pointer e0,a.v,b.v] [.one .slice]:=cod 52 [] [] [(3,7,[(1,.one .slice),(2,.one .slice)]),(1,11,[(1,.one .slice),(2,.one .slice)])] f111
def Sh.jz(a:Sl):PR:=λR w=>
Jn [.int .i64] (λJ0=>
Lp [.int .i64] (λ(k:Int) w1 C0=>
ixa a k 1 λa1=>
ldc (.int .u64) w1 a1 λ(v:Int)=>
cond ((v:Int) == 0) (
bnd (wi (k+1)) λn=>
C0 n w1) (
J0 k w1)) 0 w) λ(k1:Int) w2=>
bnd (wi (64*k1)) λn1=>
ixa a k1 1 λa2=>
ldc (.int .u64) w2 a2 λ(v1:Int)=>
cl Pg F.bH [.int .u64 v1] w2 [.one (.int .i64)] λ(r:Int) w3=>
bnd (wi (n1+r)) λn2=>
R (.int .i64 n2) w3
theorem Ct.jz:CG (Sh.jz a) F.jz [a.v] [.one (.int .i64)]:=cod 19 [] [] [(2,0,[(3,.one (.int .i64))]),(3,2,[(3,.one (.int .i64))])] f135
def Sh.mr(t:HL I11):PR:=λR w=>
nwv w λw1=>
cl Pg F.kj [.agg (aM I11 t).toArray] w1 [.one .ptr] λ(p:OA) w2=>
nwb w2 [.pointer p] T.yI λb w3=>
R (.pointer (some ⟨b,0,none⟩)) w3
theorem Ct.mr{t:HL I11}:CG (Sh.mr t) F.mr [.agg (aM I11 t).toArray] [.one .ptr]:=cod 7 [(1,7)] [(7,11)] [] f165
end
end Go.Proofs.YtpbimnlggalnfaaGreatDoor.Zg
