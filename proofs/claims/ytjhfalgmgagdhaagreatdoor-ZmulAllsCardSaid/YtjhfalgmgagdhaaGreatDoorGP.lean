/- A part of the proofs of this seat's laws: words, lemmas or contracts of its functions. -/
import Derived.Test.YtjhfalgmgagdhaaGreatDoorGC
set_option linter.unusedVariables false
set_option linter.unusedSimpArgs false
set_option linter.unnecessarySimpa false
section
set_option maxRecDepth 100000
namespace Go.Proofs.YtjhfalgmgagdhaaGreatDoor.Zg
open Go.Proofs.Tryz
def Sh.api_Nat_Zero (n:Sl) (R:Value→TW→Prop) (w:TW):Prop:=
cl Pg F.api_Nat_Len [n.v] w [.one (.int .i64)] fun (r:Int) w1=>
R (.bool ((r:Int) == 0)) w1
theorem Ct.api_Nat_Zero {n:Sl} {w:TW} {X:Nat→Prop} {K:KT [.one .bool]} (h:Sh.api_Nat_Zero n (Rt X [.one .bool] K w) w.here):Ct Pg F.api_Nat_Zero [n.v] w X [.one .bool] K:=
 cod (Sh.api_Nat_Zero n) 6 [] [] [] f38 h
def Sh.api_Nat_Bits (n:Sl) (R:Value→TW→Prop) (w:TW):Prop:=
cl Pg F.api_Nat_Len [n.v] w [.one (.int .i64)] fun (r:Int) w1=>
cond ((r:Int) == 0) (
R (.int .i64 0) w1) (
bnd (wi (r-1)) fun n1=>
bnd (wi (64*n1)) fun n2=>
bnd (wi (r-1)) fun n3=>
ixa n n3 1 fun a=>
ldc (.int .u64) w1 a fun (v:Int)=>
cl Pg F.bits_Len64 [.int .u64 v] w1 [.one (.int .i64)] fun (r1:Int) w2=>
bnd (wi (n2+r1)) fun n4=>
R (.int .i64 n4) w2)
theorem Ct.api_Nat_Bits {n:Sl} {w:TW} {X:Nat→Prop} {K:KT [.one (.int .i64)]} (h:Sh.api_Nat_Bits n (Rt X [.one (.int .i64)] K w) w.here):Ct Pg F.api_Nat_Bits [n.v] w X [.one (.int .i64)] K:=
 cod (Sh.api_Nat_Bits n) 18 [] [] [] f62 h
def Sh.api_Nat_Len (n:Sl) (R:Value→TW→Prop) (w:TW):Prop:=
Jn [.int .i64] (fun J0=>
Lp [.int .i64] (fun (k:Int) w1 C0=>
Jn [.bool] (fun J1=>
cond (decide ((k:Int)>0)) (
bnd (wi (k-1)) fun n1=>
ixa n n1 1 fun a=>
ldc (.int .u64) w1 a fun (v:Int)=>
J1 ((v:Int) == 0) w1) (
J1 false w1)) fun (x:Bool) w2=>
cond x (
bnd (wi (k-1)) fun n2=>
C0 n2 w2) (
J0 k w2)) (n.n:Int) w) fun (k1:Int) w3=>
R (.int .i64 k1) w3
theorem Ct.api_Nat_Len {n:Sl} {w:TW} {X:Nat→Prop} {K:KT [.one (.int .i64)]} (h:Sh.api_Nat_Len n (Rt X [.one (.int .i64)] K w) w.here):Ct Pg F.api_Nat_Len [n.v] w X [.one (.int .i64)] K:=
 cod (Sh.api_Nat_Len n) 19 [] [] [(2,0,[(3,.one (.int .i64))]),(3,2,[(3,.one (.int .i64))]),(0,2,[(15,.one .bool)])] f78 h
end Go.Proofs.YtjhfalgmgagdhaaGreatDoor.Zg
end

section
set_option maxRecDepth 100000
namespace Go.Proofs.YtjhfalgmgagdhaaGreatDoor.Zg
open Go.Proofs.Tryz
def Sh.bits_Len (x:Int) (R:Value→TW→Prop) (w:TW):Prop:=
cl Pg F.bits_Len64 [.int .u64 x] w [.one (.int .i64)] fun (r:Int) w1=>
R (.int .i64 r) w1
theorem Ct.bits_Len {x:Int} {w:TW} {X:Nat→Prop} {K:KT [.one (.int .i64)]} (h:Sh.bits_Len x (Rt X [.one (.int .i64)] K w) w.here):Ct Pg F.bits_Len [.int .u64 x] w X [.one (.int .i64)] K:=
 cod (Sh.bits_Len x) 8 [] [] [] f72 h
def Sh.bits_Len64 (x:Int) (R:Value→TW→Prop) (w:TW):Prop:=
Jn [.int .u64,.int .i64] (fun J0=>
cond (decide ((x:Int)≥4294967296)) (
shrK .u64 x 32 fun n=>
J0 n 32 w) (
J0 x 0 w)) fun (x1:Int) (n1:Int) w1=>
Jn [.int .u64,.int .i64] (fun J1=>
cond (decide ((x1:Int)≥65536)) (
shrK .u64 x1 16 fun n2=>
bnd (wi (n1+16)) fun n3=>
J1 n2 n3 w1) (
J1 x1 n1 w1)) fun (x2:Int) (n4:Int) w2=>
Jn [.int .u64,.int .i64] (fun J2=>
cond (decide ((x2:Int)≥256)) (
shrK .u64 x2 8 fun n5=>
bnd (wi (n4+8)) fun n6=>
J2 n5 n6 w2) (
J2 x2 n4 w2)) fun (x3:Int) (n7:Int) w3=>
bnd (IntKind.u8.wrap (x3)) fun n8=>
ixs (⟨#[0,1,2,2,3,3,3,3,4,4,4,4,4,4,4,4,5,5,5,5,5,5,5,5,5,5,5,5,5,5,5,5,6,6,6,6,6,6,6,6,6,6,6,6,6,6,6,6,6,6,6,6,6,6,6,6,6,6,6,6,6,6,6,6,7,7,7,7,7,7,7,7,7,7,7,7,7,7,7,7,7,7,7,7,7,7,7,7,7,7,7,7,7,7,7,7,7,7,7,7,7,7,7,7,7,7,7,7,7,7,7,7,7,7,7,7,7,7,7,7,7,7,7,7,7,7,7,7,8,8,8,8,8,8,8,8,8,8,8,8,8,8,8,8,8,8,8,8,8,8,8,8,8,8,8,8,8,8,8,8,8,8,8,8,8,8,8,8,8,8,8,8,8,8,8,8,8,8,8,8,8,8,8,8,8,8,8,8,8,8,8,8,8,8,8,8,8,8,8,8,8,8,8,8,8,8,8,8,8,8,8,8,8,8,8,8,8,8,8,8,8,8,8,8,8,8,8,8,8,8,8,8,8,8,8,8,8,8,8,8,8,8,8,8,8,8,8,8,8,8,8,8,8,8,8,8]⟩:ByteArray) n8 fun n9=>
bnd (wi (n9)) fun n10=>
bnd (wi (n7+n10)) fun n11=>
R (.int .i64 n11) w3
theorem Ct.bits_Len64 {x:Int} {w:TW} {X:Nat→Prop} {K:KT [.one (.int .i64)]} (h:Sh.bits_Len64 x (Rt X [.one (.int .i64)] K w) w.here):Ct Pg F.bits_Len64 [.int .u64 x] w X [.one (.int .i64)] K:=
 cod (Sh.bits_Len64 x) 25 [] [] [(1,2,[(0,.one (.int .u64)),(2,.one (.int .i64))]),(1,5,[(0,.one (.int .u64)),(2,.one (.int .i64))]),(1,8,[(0,.one (.int .u64)),(2,.one (.int .i64))])] f105 h
def Sh.bits_LeadingZeros64 (x:Int) (R:Value→TW→Prop) (w:TW):Prop:=
cl Pg F.bits_Len64 [.int .u64 x] w [.one (.int .i64)] fun (r:Int) w1=>
bnd (wi (64-r)) fun n=>
R (.int .i64 n) w1
theorem Ct.bits_LeadingZeros64 {x:Int} {w:TW} {X:Nat→Prop} {K:KT [.one (.int .i64)]} (h:Sh.bits_LeadingZeros64 x (Rt X [.one (.int .i64)] K w) w.here):Ct Pg F.bits_LeadingZeros64 [.int .u64 x] w X [.one (.int .i64)] K:=
 cod (Sh.bits_LeadingZeros64 x) 6 [] [] [] f118 h
def Sh.bits_TrailingZeros64 (x:Int) (R:Value→TW→Prop) (w:TW):Prop:=
cond ((x:Int) == 0) (
R (.int .i64 64) w) (
bnd (wu (0-x)) fun n=>
bnd (bits2 .and .u64 x n) fun n1=>
bnd (wu (n1*285870213051353865)) fun n2=>
shrK .u64 n2 58 fun n3=>
ixp ⟨0,0,none⟩ n3 64 1 fun a=>
ldc (.int .u8) w a fun (v:Int)=>
bnd (wi (v)) fun n4=>
R (.int .i64 n4) w)
theorem Ct.bits_TrailingZeros64 {x:Int} {w:TW} {X:Nat→Prop} {K:KT [.one (.int .i64)]} (h:Sh.bits_TrailingZeros64 x (Rt X [.one (.int .i64)] K w) w.here):Ct Pg F.bits_TrailingZeros64 [.int .u64 x] w X [.one (.int .i64)] K:=
 cod (Sh.bits_TrailingZeros64 x) 14 [] [] [] f133 h
def Sh.bits_Div64 (hi:Int) (lo:Int) (y:Int) (R:Value→TW→Prop) (w:TW):Prop:=
Jn [] (fun J0=>
cond ((y:Int) == 0) (
False) (
J0 w)) fun  w1=>
Jn [] (fun J1=>
cond (decide ((y:Int)≤hi)) (
False) (
J1 w1)) fun  w2=>
cond ((hi:Int) == 0) (
divK .u64 lo y fun n=>
remK lo y fun n1=>
R (.tuple #[.int .u64 n,.int .u64 n1]) w2.drew) (
cl Pg F.bits_LeadingZeros64 [.int .u64 y] w2 [.one (.int .i64)] fun (r:Int) w3=>
bnd (wu (r)) fun n2=>
shlK .u64 y n2 fun n3=>
shrK .u64 n3 32 fun n4=>
bnd (bits2 .and .u64 n3 4294967295) fun n5=>
shlK .u64 hi n2 fun n6=>
bnd (wu (64-n2)) fun n7=>
shrK .u64 lo n7 fun n8=>
bnd (bits2 .or .u64 n6 n8) fun n9=>
shlK .u64 lo n2 fun n10=>
shrK .u64 n10 32 fun n11=>
bnd (bits2 .and .u64 n10 4294967295) fun n12=>
divK .u64 n9 n4 fun n13=>
bnd (wu (n13*n4)) fun n14=>
bnd (wu (n9-n14)) fun n15=>
Jn [.int .u64] (fun J2=>
Lp [.int .u64,.int .u64] (fun (q1:Int) (rhat:Int) w4 C0=>
Jn [.bool] (fun J3=>
cond (decide ((q1:Int)≥4294967296)) (
J3 true w4) (
bnd (wu (q1*n5)) fun n16=>
bnd (wu (4294967296*rhat)) fun n17=>
bnd (wu (n17+n11)) fun n18=>
J3 (decide ((n16:Int)>n18)) w4)) fun (x:Bool) w5=>
cond x (
bnd (wu (q1-1)) fun n19=>
bnd (wu (rhat+n4)) fun n20=>
cond (decide ((n20:Int)≥4294967296)) (
J2 n19 w5) (
C0 n19 n20 w5)) (
J2 q1 w5)) n13 n15 w3) fun (q11:Int) w6=>
bnd (wu (n9*4294967296)) fun n21=>
bnd (wu (n21+n11)) fun n22=>
bnd (wu (q11*n3)) fun n23=>
bnd (wu (n22-n23)) fun n24=>
divK .u64 n24 n4 fun n25=>
bnd (wu (n25*n4)) fun n26=>
bnd (wu (n24-n26)) fun n27=>
Jn [.int .u64] (fun J4=>
Lp [.int .u64,.int .u64] (fun (rhat1:Int) (q0:Int) w7 C1=>
Jn [.bool] (fun J5=>
cond (decide ((q0:Int)≥4294967296)) (
J5 true w7) (
bnd (wu (q0*n5)) fun n28=>
bnd (wu (4294967296*rhat1)) fun n29=>
bnd (wu (n29+n12)) fun n30=>
J5 (decide ((n28:Int)>n30)) w7)) fun (x1:Bool) w8=>
cond x1 (
bnd (wu (q0-1)) fun n31=>
bnd (wu (rhat1+n4)) fun n32=>
cond (decide ((n32:Int)≥4294967296)) (
J4 n31 w8) (
C1 n32 n31 w8)) (
J4 q0 w8)) n27 n25 w6) fun (q01:Int) w9=>
bnd (wu (q11*4294967296)) fun n33=>
bnd (wu (n33+q01)) fun n34=>
bnd (wu (n24*4294967296)) fun n35=>
bnd (wu (n35+n12)) fun n36=>
bnd (wu (q01*n3)) fun n37=>
bnd (wu (n36-n37)) fun n38=>
shrK .u64 n38 n2 fun n39=>
R (.tuple #[.int .u64 n34,.int .u64 n39]) w9)
theorem Ct.bits_Div64 {hi:Int} {lo:Int} {y:Int} {w:TW} {X:Nat→Prop} {K:KT [.one (.int .u64),.one (.int .u64)]} (h:Sh.bits_Div64 hi lo y (Rt X [.one (.int .u64),.one (.int .u64)] K w) w.here):Ct Pg F.bits_Div64 [.int .u64 hi,.int .u64 lo,.int .u64 y] w X [.one (.int .u64),.one (.int .u64)] K:=
 cod (Sh.bits_Div64 hi lo y) 135 [] [] [(1,2,[]),(1,4,[]),(2,0,[(15,.one (.int .u64))]),(3,17,[(15,.one (.int .u64)),(16,.one (.int .u64))]),(0,17,[(78,.one .bool)]),(2,2,[(18,.one (.int .u64))]),(3,24,[(16,.one (.int .u64)),(18,.one (.int .u64))]),(0,24,[(113,.one .bool)])] f142 h
def Sh.bits_Mul64 (x:Int) (y:Int) (R:Value→TW→Prop) (w:TW):Prop:=
bnd (bits2 .and .u64 x 4294967295) fun n=>
shrK .u64 x 32 fun n1=>
bnd (bits2 .and .u64 y 4294967295) fun n2=>
shrK .u64 y 32 fun n3=>
bnd (wu (n*n2)) fun n4=>
bnd (wu (n1*n2)) fun n5=>
shrK .u64 n4 32 fun n6=>
bnd (wu (n5+n6)) fun n7=>
bnd (bits2 .and .u64 n7 4294967295) fun n8=>
shrK .u64 n7 32 fun n9=>
bnd (wu (n*n3)) fun n10=>
bnd (wu (n8+n10)) fun n11=>
bnd (wu (n1*n3)) fun n12=>
bnd (wu (n12+n9)) fun n13=>
shrK .u64 n11 32 fun n14=>
bnd (wu (n13+n14)) fun n15=>
bnd (wu (x*y)) fun n16=>
R (.tuple #[.int .u64 n15,.int .u64 n16]) w
theorem Ct.bits_Mul64 {x:Int} {y:Int} {w:TW} {X:Nat→Prop} {K:KT [.one (.int .u64),.one (.int .u64)]} (h:Sh.bits_Mul64 x y (Rt X [.one (.int .u64),.one (.int .u64)] K w) w.here):Ct Pg F.bits_Mul64 [.int .u64 x,.int .u64 y] w X [.one (.int .u64),.one (.int .u64)] K:=
 cod (Sh.bits_Mul64 x y) 51 [] [] [] f143 h
def Sh.bits_Reverse64 (x:Int) (R:Value→TW→Prop) (w:TW):Prop:=
shrK .u64 x 1 fun n=>
bnd (bits2 .and .u64 n 6148914691236517205) fun n1=>
bnd (bits2 .and .u64 x 6148914691236517205) fun n2=>
shlK .u64 n2 1 fun n3=>
bnd (bits2 .or .u64 n1 n3) fun n4=>
shrK .u64 n4 2 fun n5=>
bnd (bits2 .and .u64 n5 3689348814741910323) fun n6=>
bnd (bits2 .and .u64 n4 3689348814741910323) fun n7=>
shlK .u64 n7 2 fun n8=>
bnd (bits2 .or .u64 n6 n8) fun n9=>
shrK .u64 n9 4 fun n10=>
bnd (bits2 .and .u64 n10 1085102592571150095) fun n11=>
bnd (bits2 .and .u64 n9 1085102592571150095) fun n12=>
shlK .u64 n12 4 fun n13=>
bnd (bits2 .or .u64 n11 n13) fun n14=>
cl Pg F.bits_ReverseBytes64 [.int .u64 n14] w [.one (.int .u64)] fun (r:Int) w1=>
R (.int .u64 r) w1
theorem Ct.bits_Reverse64 {x:Int} {w:TW} {X:Nat→Prop} {K:KT [.one (.int .u64)]} (h:Sh.bits_Reverse64 x (Rt X [.one (.int .u64)] K w) w.here):Ct Pg F.bits_Reverse64 [.int .u64 x] w X [.one (.int .u64)] K:=
 cod (Sh.bits_Reverse64 x) 26 [] [] [] f238 h
def Sh.bits_ReverseBytes64 (x:Int) (R:Value→TW→Prop) (w:TW):Prop:=
shrK .u64 x 8 fun n=>
bnd (bits2 .and .u64 n 71777214294589695) fun n1=>
bnd (bits2 .and .u64 x 71777214294589695) fun n2=>
shlK .u64 n2 8 fun n3=>
bnd (bits2 .or .u64 n1 n3) fun n4=>
shrK .u64 n4 16 fun n5=>
bnd (bits2 .and .u64 n5 281470681808895) fun n6=>
bnd (bits2 .and .u64 n4 281470681808895) fun n7=>
shlK .u64 n7 16 fun n8=>
bnd (bits2 .or .u64 n6 n8) fun n9=>
shrK .u64 n9 32 fun n10=>
shlK .u64 n9 32 fun n11=>
bnd (bits2 .or .u64 n10 n11) fun n12=>
R (.int .u64 n12) w
theorem Ct.bits_ReverseBytes64 {x:Int} {w:TW} {X:Nat→Prop} {K:KT [.one (.int .u64)]} (h:Sh.bits_ReverseBytes64 x (Rt X [.one (.int .u64)] K w) w.here):Ct Pg F.bits_ReverseBytes64 [.int .u64 x] w X [.one (.int .u64)] K:=
 cod (Sh.bits_ReverseBytes64 x) 22 [] [] [] f241 h
end Go.Proofs.YtjhfalgmgagdhaaGreatDoor.Zg
end

section
set_option maxRecDepth 100000
namespace Go.Proofs.YtjhfalgmgagdhaaGreatDoor.Zg
open Go.Proofs.Tryz
def Sh.conv_Mul (m:Option Addr) (a:Sl) (b:Sl) (R:Value→TW→Prop) (w:TW):Prop:=
cl Pg F.conv_Words [.pointer m,a.v,b.v] w [.one .slice,.one .bool] fun (s:Sl) (ok:Bool) w1=>
cond (!ok) (
R (.tuple #[.slice none 0 0,.bool false]) w1) (
cl Pg F.conv_Carry [s.v] w1 [.one .slice] fun (s1:Sl) w2=>
R (.tuple #[s1.v,.bool true]) w2)
theorem Ct.conv_Mul {m:Option Addr} {a:Sl} {b:Sl} {w:TW} {X:Nat→Prop} {K:KT [.one .slice,.one .bool]} (h:Sh.conv_Mul m a b (Rt X [.one .slice,.one .bool] K w) w.here):Ct Pg F.conv_Mul [.pointer m,a.v,b.v] w X [.one .slice,.one .bool] K:=
 cod (Sh.conv_Mul m a b) 21 [] [] [] f162 h
def Sh.conv_Words (m:Option Addr) (a:Sl) (b:Sl) (R:Value→TW→Prop) (w:TW):Prop:=
nwb w [a.v] T.s_uint64 fun b1 w1=>
nwb w1 [b.v] T.s_uint64 fun b2 w2=>
ldc (.slice) w2 ⟨b1,0,none⟩ fun (v:Sl)=>
ldc (.slice) w2 ⟨b2,0,none⟩ fun (v1:Sl)=>
cl Pg F.conv_may [.int .i64 (v.n:Int),.int .i64 (v1.n:Int)] w2 [.one .bool] fun (ok:Bool) w3=>
cond (!ok) (
R (.tuple #[.slice none 0 0,.bool false]) w3) (
ldc (.slice) w3 ⟨b1,0,none⟩ fun (v2:Sl)=>
ldc (.slice) w3 ⟨b2,0,none⟩ fun (v3:Sl)=>
bnd (wi ((v2.n:Int)+(v3.n:Int))) fun n=>
bnd (wi (n-1)) fun n1=>
ldc (.slice) w3 ⟨b1,0,none⟩ fun (v4:Sl)=>
ldc (.slice) w3 ⟨b2,0,none⟩ fun (v5:Sl)=>
bnd (wi ((v4.n:Int)+(v5.n:Int))) fun n2=>
cl Pg F.conv_joined [.pointer m,.int .i64 n1,.int .i64 n2,.func (.func F.conv_Words_1) #[] #[.pointer (some ⟨b1,0,none⟩),.pointer (some ⟨b2,0,none⟩)]] w3 [.one .slice,.one .bool] fun (s:Sl) (ok1:Bool) w4=>
R (.tuple #[s.v,.bool ok1]) w4)
theorem Ct.conv_Words {m:Option Addr} {a:Sl} {b:Sl} {w:TW} {X:Nat→Prop} {K:KT [.one .slice,.one .bool]} (h:Sh.conv_Words m a b (Rt X [.one .slice,.one .bool] K w) w.here):Ct Pg F.conv_Words [.pointer m,a.v,b.v] w X [.one .slice,.one .bool] K:=
 cod (Sh.conv_Words m a b) 30 [] [] [] f174 h
def Sh.conv_Carry (l:Sl) (R:Value→TW→Prop) (w:TW):Prop:=
bnd (wi ((l.n:Int)+4)) fun n=>
mks w n n T.uint64 8 [.int .u64 0] fun s w1=>
Jn [] (fun J0=>
Lp [.int .i64] (fun (x:Int) w2 C0=>
cond (decide ((x:Int)<(l.n:Int))) (
ixa l x 3 fun a=>
ldc (.int .u64) w2 (a.add 0) fun (v:Int)=>
ldc (.int .u64) w2 (a.add 1) fun (v1:Int)=>
ldc (.int .u64) w2 (a.add 2) fun (v2:Int)=>
nwb w2 [.int .u64 0,.int .u64 0,.int .u64 0] T.t_3_uint64 fun b w3=>
stc w3 ⟨b,0,none⟩ (.int .u64 v) fun w4=>
stc w4 (Addr.add ⟨b,0,none⟩ 1) (.int .u64 v1) fun w5=>
stc w5 (Addr.add ⟨b,0,none⟩ 2) (.int .u64 v2) fun w6=>
Jn [] (fun J1=>
Lp [.int .u64,.int .i64] (fun (c:Int) (j:Int) w7 C1=>
Jn [.bool] (fun J2=>
cond (decide ((j:Int)<3)) (
J2 true w7) (
J2 (decide ((c:Int)>0)) w7)) fun (x1:Bool) w8=>
cond x1 (
Jn [.int .u64] (fun J3=>
cond (decide ((j:Int)<3)) (
ixp ⟨b,0,none⟩ j 3 1 fun a1=>
ldc (.int .u64) w8 a1 fun (v3:Int)=>
J3 v3 w8) (
J3 0 w8)) fun (x2:Int) w9=>
bnd (wi (x+j)) fun n1=>
bnd (wi (x+j)) fun n2=>
ixa s n2 1 fun a2=>
ldc (.int .u64) w9 a2 fun (v4:Int)=>
add64 v4 x2 c fun s1 c1=>
ixa s n1 1 fun a3=>
stc w9 a3 (.int .u64 s1) fun w10=>
bnd (wi (j+1)) fun n3=>
C1 c1 n3 w10) (
J1 w8)) 0 0 w6) fun  w11=>
bnd (wi (x+1)) fun n4=>
C0 n4 w11) (
J0 w2)) 0 w1) fun  w12=>
cl Pg F.limb_Norm [s.v] w12 [.one .slice] fun (s2:Sl) w13=>
R (s2.v) w13
theorem Ct.conv_Carry {l:Sl} {w:TW} {X:Nat→Prop} {K:KT [.one .slice]} (h:Sh.conv_Carry l (Rt X [.one .slice] K w) w.here):Ct Pg F.conv_Carry [l.v] w X [.one .slice] K:=
 cod (Sh.conv_Carry l) 53 [] [] [(2,0,[]),(3,3,[(15,.one (.int .i64))]),(2,2,[]),(3,7,[(6,.one (.int .u64)),(7,.one (.int .i64))]),(0,7,[(25,.one .bool)]),(1,11,[(8,.one (.int .u64))])] f192 h
def Sh.conv_may (n:Int) (m:Int) (R:Value→TW→Prop) (w:TW):Prop:=
Jn [.bool] (fun J0=>
cond (decide ((n:Int)>0)) (
cond (decide ((m:Int)>0)) (
cond (decide ((n:Int)≤1048576)) (
bnd (wi (1048576-n)) fun n1=>
J0 (decide ((m:Int)≤n1)) w) (
J0 false w)) (
J0 false w)) (
J0 false w)) fun (x:Bool) w1=>
R (.bool x) w1
theorem Ct.conv_may {n:Int} {m:Int} {w:TW} {X:Nat→Prop} {K:KT [.one .bool]} (h:Sh.conv_may n m (Rt X [.one .bool] K w) w.here):Ct Pg F.conv_may [.int .i64 n,.int .i64 m] w X [.one .bool] K:=
 cod (Sh.conv_may n m) 21 [] [] [(0,1,[(4,.one .bool)])] f201 h
def Sh.conv_joined (m:Option Addr) (n:Int) (size:Int) (one:Value) (R:Value→TW→Prop) (w:TW):Prop:=
cl Pg F.conv_begun [] w [.one .ptr] fun (p:Option Addr) w1=>
nwb w1 [.slice none 0 0,.slice none 0 0,.slice none 0 0] T.t_3_s_uint64 fun b w2=>
Jn [] (fun J0=>
Lp [.int .i64] (fun (x:Int) w3 C0=>
cond (decide ((x:Int)<3)) (
nck p fun a=>
ixp a x 3 1 fun a1=>
ldc (.int .u64) w3.drew a1 fun (v:Int)=>
cl Pg F.conv_log [.int .i64 size] w3.drew [.one (.int .i64)] fun (r:Int) w4=>
hld w4 [(a1,.int .u64 v)] <|
cl Pg F.ntt_New [.pointer m,.int .u64 v,.int .i64 r] w4 [.one .ptr,.one (.int .i64)] fun (p1:Option Addr) (r1:Int) w5=>
cond ((r1:Int) != 0) (
R (.tuple #[.slice none 0 0,.bool false]) w5) (
clv Pg one [.pointer p1] w5 [.one .slice,.one .bool] fun (s:Sl) (ok:Bool) w6=>
cond (!ok) (
R (.tuple #[.slice none 0 0,.bool false]) w6) (
ixp ⟨b,0,none⟩ x 3 1 fun a2=>
stc w6 a2 s.v fun w7=>
bnd (wi (x+1)) fun n1=>
C0 n1 w7))) (
J0 w3)) 0 w2) fun  w8=>
cl Pg F.conv_log [.int .i64 size] w8 [.one (.int .i64)] fun (r2:Int) w9=>
bnd (wu (r2)) fun n2=>
shlK .i64 6 n2 fun n3=>
cl Pg F.meter_Meter_Spend [.pointer m,.int .i64 n3] w9 [.one (.int .i64)] fun (_:Int) w10=>
mks w10 n n T.t_3_uint64 24 [.int .u64 0,.int .u64 0,.int .u64 0] fun s1 w11=>
Jn [] (fun J1=>
Lp [.int .i64] (fun (x1:Int) w12 C1=>
cond (decide ((x1:Int)<(s1.n:Int))) (
ixp ⟨b,0,none⟩ 0 3 1 fun a3=>
ldc (.slice) w12.drew a3 fun (v1:Sl)=>
ixa v1 x1 1 fun a4=>
ldc (.int .u64) w12.drew a4 fun (v2:Int)=>
ixp ⟨b,0,none⟩ 1 3 1 fun a5=>
ldc (.slice) w12.drew a5 fun (v3:Sl)=>
ixa v3 x1 1 fun a6=>
ldc (.int .u64) w12.drew a6 fun (v4:Int)=>
ixp ⟨b,0,none⟩ 2 3 1 fun a7=>
ldc (.slice) w12.drew a7 fun (v5:Sl)=>
ixa v5 x1 1 fun a8=>
ldc (.int .u64) w12.drew a8 fun (v6:Int)=>
cl Pg F.conv_crt_three [.pointer p,.int .u64 v2,.int .u64 v4,.int .u64 v6] w12.drew [.agg [.int .u64,.int .u64,.int .u64]] fun (r4:Int) (r5:Int) (r6:Int) w13=>
hld w13 [(a7,v5.v),(a5,v3.v),(a3,v1.v)] <|
ixa s1 x1 3 fun a9=>
stc w13 a9 (.int .u64 r4) fun w14=>
stc w14 (a9.add 1) (.int .u64 r5) fun w15=>
stc w15 (a9.add 2) (.int .u64 r6) fun w16=>
bnd (wi (x1+1)) fun n4=>
C1 n4 w16) (
J1 w12)) 0 w11) fun  w17=>
R (.tuple #[s1.v,.bool true]) w17
theorem Ct.conv_joined {m:Option Addr} {n:Int} {size:Int} {one:Value} {w:TW} {X:Nat→Prop} {K:KT [.one .slice,.one .bool]} (h:Sh.conv_joined m n size one (Rt X [.one .slice,.one .bool] K w) w.here):Ct Pg F.conv_joined [.pointer m,.int .i64 n,.int .i64 size,one] w X [.one .slice,.one .bool] K:=
 cod (Sh.conv_joined m n size one) 85 [] [] [(2,0,[]),(3,4,[(20,.one (.int .i64))]),(2,2,[]),(3,17,[(60,.one (.int .i64))])] f202 h
def Sh.conv_Words_1 (t:Option Addr) (cap:Addr) (cap1:Addr) (R:Value→TW→Prop) (w:TW):Prop:=
ldc (.slice) w cap fun (v:Sl)=>
ldc (.slice) w cap1 fun (v1:Sl)=>
cl Pg F.ntt_Plan_Conv [.pointer t,v.v,v1.v] w [.one .slice,.one .bool] fun (s:Sl) (ok:Bool) w1=>
R (.tuple #[s.v,.bool ok]) w1
theorem Ct.conv_Words_1 {t:Option Addr} {cap:Addr} {cap1:Addr} {w:TW} {X:Nat→Prop} {K:KT [.one .slice,.one .bool]} (h:Sh.conv_Words_1 t cap cap1 (Rt X [.one .slice,.one .bool] K w) w.here):Ct Pg F.conv_Words_1 [.pointer t,.pointer (some cap),.pointer (some cap1)] w X [.one .slice,.one .bool] K:=
 cod (Sh.conv_Words_1 t cap cap1) 12 [] [] [] f203 h
def Sh.conv_begun (R:Value→TW→Prop) (w:TW):Prop:=
nwb w [.int .u64 0,.int .u64 0,.int .u64 0,.pointer none,.pointer none,.pointer none,.int .u64 0,.int .u64 0,.int .u64 0,.int .u64 0] T.conv_crt fun b w1=>
cl Pg F.prime_Three [] w1 [.agg [.int .u64,.int .i64,.int .u64,.int .u64,.int .i64,.int .u64,.int .u64,.int .i64,.int .u64]] fun (r:Int) (r1:Int) (r2:Int) (r3:Int) (r4:Int) (r5:Int) (r6:Int) (r7:Int) (r8:Int) w2=>
Jn [] (fun J0=>
Lp [.int .i64] (fun (x:Int) w3 C0=>
cond (decide ((x:Int)<3)) (
inr x 3 (ixq (.int .u64) [.int .u64 r,.int .i64 r1,.int .u64 r2,.int .u64 r3,.int .i64 r4,.int .u64 r5,.int .u64 r6,.int .i64 r7,.int .u64 r8] ((Int.toNat x*3)+0) fun (v:Int)=>
ixq (.int .i64) [.int .u64 r,.int .i64 r1,.int .u64 r2,.int .u64 r3,.int .i64 r4,.int .u64 r5,.int .u64 r6,.int .i64 r7,.int .u64 r8] ((Int.toNat x*3)+1) fun (_:Int)=>
ixq (.int .u64) [.int .u64 r,.int .i64 r1,.int .u64 r2,.int .u64 r3,.int .i64 r4,.int .u64 r5,.int .u64 r6,.int .i64 r7,.int .u64 r8] ((Int.toNat x*3)+2) fun (_:Int)=>
nwv w3 fun w4=>
nwv w4 fun w5=>
ixp ⟨b,0,none⟩ x 3 1 fun a=>
stc w5.drew a (.int .u64 v) fun w6=>
cl Pg F.modw_New [.int .u64 v] w6.drew [.one .ptr,.one (.int .i64)] fun (p:Option Addr) (_:Int) w7=>
ixp (Addr.add ⟨b,0,none⟩ 3) x 3 1 fun a1=>
stc w7 a1 (.pointer p) fun w8=>
bnd (wi (x+1)) fun n=>
C0 n w8)) (
J0 w3)) 0 w2) fun  w9=>
ixp (Addr.add ⟨b,0,none⟩ 3) 1 3 1 fun a2=>
ldc (.ptr) w9.drew a2 fun (v3:Option Addr)=>
ixp ⟨b,0,none⟩ 0 3 1 fun a3=>
ldc (.int .u64) w9.drew a3 fun (v4:Int)=>
cl Pg F.modw_Mod_Inv [.pointer v3,.int .u64 v4] w9.drew [.one (.int .u64),.one .bool] fun (r10:Int) (_:Bool) w10=>
stc w10 (Addr.add ⟨b,0,none⟩ 6) (.int .u64 r10) fun w11=>
ixp (Addr.add ⟨b,0,none⟩ 3) 2 3 1 fun a4=>
ldc (.ptr) w11.drew a4 fun (v5:Option Addr)=>
ixp (Addr.add ⟨b,0,none⟩ 3) 2 3 1 fun a5=>
ldc (.ptr) w11.drew a5 fun (v6:Option Addr)=>
ixp ⟨b,0,none⟩ 0 3 1 fun a6=>
ldc (.int .u64) w11.drew a6 fun (v7:Int)=>
ixp ⟨b,0,none⟩ 1 3 1 fun a7=>
ldc (.int .u64) w11.drew a7 fun (v8:Int)=>
cl Pg F.modw_Mod_Mul [.pointer v6,.int .u64 v7,.int .u64 v8] w11.drew [.one (.int .u64)] fun (r11:Int) w12=>
hld w12 [(a4,.pointer v5)] <|
cl Pg F.modw_Mod_Inv [.pointer v5,.int .u64 r11] w12 [.one (.int .u64),.one .bool] fun (r12:Int) (_:Bool) w13=>
stc w13 (Addr.add ⟨b,0,none⟩ 7) (.int .u64 r12) fun w14=>
ixp ⟨b,0,none⟩ 0 3 1 fun a8=>
ldc (.int .u64) w14.drew a8 fun (v9:Int)=>
ixp ⟨b,0,none⟩ 1 3 1 fun a9=>
ldc (.int .u64) w14.drew a9 fun (v10:Int)=>
cl Pg F.bits_Mul64 [.int .u64 v9,.int .u64 v10] w14.drew [.one (.int .u64),.one (.int .u64)] fun (r13:Int) (r14:Int) w15=>
stc w15 (Addr.add ⟨b,0,none⟩ 8) (.int .u64 r13) fun w16=>
stc w16 (Addr.add ⟨b,0,none⟩ 9) (.int .u64 r14) fun w17=>
R (.pointer (some ⟨b,0,none⟩)) w17
theorem Ct.conv_begun {w:TW} {X:Nat→Prop} {K:KT [.one .ptr]} (h:Sh.conv_begun (Rt X [.one .ptr] K w) w.here):Ct Pg F.conv_begun [] w X [.one .ptr] K:=
 cod Sh.conv_begun 96 [(3,96)] [(96,3)] [(2,0,[]),(3,3,[(7,.one (.int .i64))])] f217 h
def Sh.conv_log (n:Int) (R:Value→TW→Prop) (w:TW):Prop:=
bnd (wi (n-1)) fun n1=>
bnd (wu (n1)) fun n2=>
cl Pg F.bits_Len64 [.int .u64 n2] w [.one (.int .i64)] fun (r:Int) w1=>
R (.int .i64 r) w1
theorem Ct.conv_log {n:Int} {w:TW} {X:Nat→Prop} {K:KT [.one (.int .i64)]} (h:Sh.conv_log n (Rt X [.one (.int .i64)] K w) w.here):Ct Pg F.conv_log [.int .i64 n] w X [.one (.int .i64)] K:=
 cod (Sh.conv_log n) 7 [] [] [] f219 h
def Sh.conv_crt_three (c:Option Addr) (r0:Int) (r1:Int) (r2:Int) (R:Value→TW→Prop) (w:TW):Prop:=
nwv w fun w1=>
nck c fun a=>
ixp (a.add 3) 1 3 1 fun a1=>
ldc (.ptr) w1.drew a1 fun (v:Option Addr)=>
nck c fun a2=>
ixp (a2.add 3) 1 3 1 fun a3=>
ldc (.ptr) w1.drew a3 fun (v1:Option Addr)=>
nck c fun a4=>
ldc (.int .u64) w1.drew (a4.add 6) fun (v2:Int)=>
cl Pg F.modw_Mod_Sub [.pointer v1,.int .u64 r1,.int .u64 r0] w1.drew [.one (.int .u64)] fun (r:Int) w2=>
hld w2 [((a4.add 6),.int .u64 v2),(a1,.pointer v)] <|
cl Pg F.modw_Mod_Mul [.pointer v,.int .u64 r,.int .u64 v2] w2 [.one (.int .u64)] fun (r3:Int) w3=>
nck c fun a5=>
ixp a5 0 3 1 fun a6=>
ldc (.int .u64) w3 a6 fun (v3:Int)=>
cl Pg F.bits_Mul64 [.int .u64 v3,.int .u64 r3] w3 [.one (.int .u64),.one (.int .u64)] fun (r4:Int) (r5:Int) w4=>
add64 r5 r0 0 fun s c1=>
bnd (wu (r4+c1)) fun n=>
nck c fun a7=>
ixp (a7.add 3) 2 3 1 fun a8=>
ldc (.ptr) w4.drew a8 fun (v4:Option Addr)=>
nck c fun a9=>
ixp (a9.add 3) 2 3 1 fun a10=>
ldc (.ptr) w4.drew a10 fun (v5:Option Addr)=>
nck c fun a11=>
ixp (a11.add 3) 2 3 1 fun a12=>
ldc (.ptr) w4.drew a12 fun (v6:Option Addr)=>
cl Pg F.modw_Mod_Mul [.pointer v6,.int .u64 n,.int .u64 9223372036854775808] w4.drew [.one (.int .u64)] fun (r6:Int) w5=>
hld w5 [(a10,.pointer v5),(a8,.pointer v4)] <|
cl Pg F.modw_Mod_Mul [.pointer v5,.int .u64 r6,.int .u64 2] w5 [.one (.int .u64)] fun (r7:Int) w6=>
hld w6 [(a8,.pointer v4)] <|
cl Pg F.modw_Mod_Add [.pointer v4,.int .u64 r7,.int .u64 s] w6 [.one (.int .u64)] fun (r8:Int) w7=>
nck c fun a13=>
ixp (a13.add 3) 2 3 1 fun a14=>
ldc (.ptr) w7.drew a14 fun (v7:Option Addr)=>
nck c fun a15=>
ixp (a15.add 3) 2 3 1 fun a16=>
ldc (.ptr) w7.drew a16 fun (v8:Option Addr)=>
nck c fun a17=>
ldc (.int .u64) w7.drew (a17.add 7) fun (v9:Int)=>
cl Pg F.modw_Mod_Sub [.pointer v8,.int .u64 r2,.int .u64 r8] w7.drew [.one (.int .u64)] fun (r9:Int) w8=>
hld w8 [((a17.add 7),.int .u64 v9),(a14,.pointer v7)] <|
cl Pg F.modw_Mod_Mul [.pointer v7,.int .u64 r9,.int .u64 v9] w8 [.one (.int .u64)] fun (r10:Int) w9=>
nck c fun a18=>
ldc (.int .u64) w9 (a18.add 9) fun (v10:Int)=>
cl Pg F.bits_Mul64 [.int .u64 v10,.int .u64 r10] w9 [.one (.int .u64),.one (.int .u64)] fun (r11:Int) (r12:Int) w10=>
nck c fun a19=>
ldc (.int .u64) w10 (a19.add 8) fun (v11:Int)=>
cl Pg F.bits_Mul64 [.int .u64 v11,.int .u64 r10] w10 [.one (.int .u64),.one (.int .u64)] fun (r13:Int) (r14:Int) w11=>
nwv w11 fun w12=>
add64 r12 s 0 fun s1 c2=>
nwv w12 fun w13=>
add64 r11 r14 0 fun s2 c3=>
add64 s2 n c2 fun s3 c4=>
nwv w13 fun w14=>
bnd (wu (r13+c3)) fun n1=>
bnd (wu (n1+c4)) fun n2=>
nwv w14 fun w15=>
nwv w15 fun w16=>
R (.agg #[.int .u64 s1,.int .u64 s3,.int .u64 n2]) w16
theorem Ct.conv_crt_three {c:Option Addr} {r0:Int} {r1:Int} {r2:Int} {w:TW} {X:Nat→Prop} {K:KT [.agg [.int .u64,.int .u64,.int .u64]]} (h:Sh.conv_crt_three c r0 r1 r2 (Rt X [.agg [.int .u64,.int .u64,.int .u64]] K w) w.here):Ct Pg F.conv_crt_three [.pointer c,.int .u64 r0,.int .u64 r1,.int .u64 r2] w X [.agg [.int .u64,.int .u64,.int .u64]] K:=
 cod (Sh.conv_crt_three c r0 r1 r2) 143 [(8,143),(19,146)] [(143,3),(146,3)] [] f220 h
end Go.Proofs.YtjhfalgmgagdhaaGreatDoor.Zg
end

section
set_option maxRecDepth 100000
namespace Go.Proofs.YtjhfalgmgagdhaaGreatDoor.Zg
open Go.Proofs.Tryz
def Sh.div_Engine_DivMod (e0:Option Addr) (a:Sl) (b:Sl) (R:Value→TW→Prop) (w:TW):Prop:=
cl Pg F.api_Nat_Len [a.v] w [.one (.int .i64)] fun (r:Int) w1=>
cl Pg F.api_Nat_Len [b.v] w1 [.one (.int .i64)] fun (r1:Int) w2=>
cond ((r1:Int) == 0) (
R (.tuple #[.slice none 0 0,.slice none 0 0,.int .i64 2]) w2) (
Jn [.bool] (fun J0=>
cond (decide ((r:Int)<r1)) (
J0 true w2) (
nck e0 fun a1=>
ldc (.ptr) w2 a1 fun (v:Option Addr)=>
nck v fun a2=>
ldc (.ptr) w2 a2 fun (v1:Option Addr)=>
nck v1 fun a3=>
ldc (.ptr) w2 a3 fun (v2:Option Addr)=>
nck v2 fun a4=>
ldc (.ptr) w2 a4 fun (v3:Option Addr)=>
nck v3 fun a5=>
ldc (.ptr) w2 a5 fun (v4:Option Addr)=>
nck v4 fun a6=>
ldc (.ptr) w2 a6 fun (v5:Option Addr)=>
nck v5 fun a7=>
ldc (.ptr) w2 a7 fun (v6:Option Addr)=>
nck v6 fun a8=>
ldc (.int .i64) w2 ((a8.add 3).add 3) fun (v7:Int)=>
cond (decide ((r1:Int)<v7)) (
J0 true w2) (
bnd (wi (r-r1)) fun n=>
bnd (wi (n+1)) fun n1=>
nck e0 fun a9=>
ldc (.ptr) w2 a9 fun (v8:Option Addr)=>
nck v8 fun a10=>
ldc (.ptr) w2 a10 fun (v9:Option Addr)=>
nck v9 fun a11=>
ldc (.ptr) w2 a11 fun (v10:Option Addr)=>
nck v10 fun a12=>
ldc (.ptr) w2 a12 fun (v11:Option Addr)=>
nck v11 fun a13=>
ldc (.ptr) w2 a13 fun (v12:Option Addr)=>
nck v12 fun a14=>
ldc (.ptr) w2 a14 fun (v13:Option Addr)=>
nck v13 fun a15=>
ldc (.ptr) w2 a15 fun (v14:Option Addr)=>
nck v14 fun a16=>
ldc (.int .i64) w2 ((a16.add 3).add 3) fun (v15:Int)=>
J0 (decide ((n1:Int)<v15)) w2))) fun (x:Bool) w3=>
cond x (
nck e0 fun a17=>
ldc (.ptr) w3 a17 fun (v16:Option Addr)=>
nck v16 fun a18=>
ldc (.ptr) w3 a18 fun (v17:Option Addr)=>
cl Pg F.divs_Engine_Long [.pointer v17,a.v,b.v] w3 [.one .slice,.one .slice,.one (.int .i64)] fun (s:Sl) (s1:Sl) (r2:Int) w4=>
R (.tuple #[s.v,s1.v,.int .i64 r2]) w4) (
Jn [.bool] (fun J1=>
nck e0 fun a19=>
ldc (.ptr) w3 a19 fun (v18:Option Addr)=>
nck v18 fun a20=>
ldc (.ptr) w3 a20 fun (v19:Option Addr)=>
nck v19 fun a21=>
ldc (.ptr) w3 a21 fun (v20:Option Addr)=>
nck v20 fun a22=>
ldc (.ptr) w3 a22 fun (v21:Option Addr)=>
nck v21 fun a23=>
ldc (.ptr) w3 a23 fun (v22:Option Addr)=>
nck v22 fun a24=>
ldc (.ptr) w3 a24 fun (v23:Option Addr)=>
nck v23 fun a25=>
ldc (.ptr) w3 a25 fun (v24:Option Addr)=>
nck v24 fun a26=>
ldc (.int .i64) w3 ((a26.add 3).add 4) fun (v25:Int)=>
cond (decide ((r1:Int)≥v25)) (
J1 (decide ((r:Int)≤16384)) w3) (
J1 false w3)) fun (x1:Bool) w5=>
cond x1 (
cl Pg F.div_Engine_newton [.pointer e0,a.v,b.v] w5 [.one .slice,.one .slice] fun (s2:Sl) (s3:Sl) w6=>
R (.tuple #[s2.v,s3.v,.int .i64 0]) w6) (
cl Pg F.div_Engine_Halves [.pointer e0,a.v,b.v] w5 [.one .slice,.one .slice,.one (.int .i64)] fun (s4:Sl) (s5:Sl) (r3:Int) w7=>
R (.tuple #[s4.v,s5.v,.int .i64 r3]) w7)))
theorem Ct.div_Engine_DivMod {e0:Option Addr} {a:Sl} {b:Sl} {w:TW} {X:Nat→Prop} {K:KT [.one .slice,.one .slice,.one (.int .i64)]} (h:Sh.div_Engine_DivMod e0 a b (Rt X [.one .slice,.one .slice,.one (.int .i64)] K w) w.here):Ct Pg F.div_Engine_DivMod [.pointer e0,a.v,b.v] w X [.one .slice,.one .slice,.one (.int .i64)] K:=
 cod (Sh.div_Engine_DivMod e0 a b) 147 [] [] [(0,4,[(18,.one .bool)]),(0,6,[(98,.one .bool)])] f41 h
def Sh.div_Engine_newton (e0:Option Addr) (a:Sl) (b:Sl) (R:Value→TW→Prop) (w:TW):Prop:=
cl Pg F.api_Nat_Len [a.v] w [.one (.int .i64)] fun (r:Int) w1=>
bnd (wi (64*r)) fun n=>
nck e0 fun a1=>
ldc (.ptr) w1 a1 fun (v:Option Addr)=>
cl Pg F.recip_Engine_Recip [.pointer v,b.v,.int .i64 n] w1 [.one .slice,.one (.int .i64)] fun (s:Sl) (_:Int) w2=>
nck e0 fun a2=>
ldc (.ptr) w2 a2 fun (v1:Option Addr)=>
nck v1 fun a3=>
ldc (.ptr) w2 a3 fun (v2:Option Addr)=>
nck v2 fun a4=>
ldc (.ptr) w2 a4 fun (v3:Option Addr)=>
cl Pg F.mul_Engine_Mul [.pointer v3,a.v,s.v] w2 [.one .slice] fun (s1:Sl) w3=>
cl Pg F.limb_Shr [s1.v,.int .i64 n] w3 [.one .slice] fun (s2:Sl) w4=>
nck e0 fun a5=>
ldc (.ptr) w4 a5 fun (v4:Option Addr)=>
nck v4 fun a6=>
ldc (.ptr) w4 a6 fun (v5:Option Addr)=>
nck v5 fun a7=>
ldc (.ptr) w4 a7 fun (v6:Option Addr)=>
cl Pg F.mul_Engine_Mul [.pointer v6,s2.v,b.v] w4 [.one .slice] fun (s3:Sl) w5=>
cl Pg F.limb_Sub [a.v,s3.v] w5 [.one .slice,.one .bool] fun (s4:Sl) (_:Bool) w6=>
Jn [.slice,.slice] (fun J0=>
Lp [.slice,.slice] (fun (q:Sl) (r2:Sl) w7 C0=>
cl Pg F.limb_Cmp [r2.v,b.v] w7 [.one (.int .i64)] fun (r3:Int) w8=>
cond (decide ((r3:Int)≥0)) (
cl Pg F.limb_Sub [r2.v,b.v] w8 [.one .slice,.one .bool] fun (s5:Sl) (_:Bool) w9=>
cl Pg F.limb_One [.int .u64 1] w9 [.one .slice] fun (s6:Sl) w10=>
cl Pg F.limb_Add [q.v,s6.v] w10 [.one .slice] fun (s7:Sl) w11=>
C0 s7 s5 w11) (
J0 q r2 w8)) s2 s4 w6) fun (q1:Sl) (r4:Sl) w12=>
R (.tuple #[q1.v,r4.v]) w12
theorem Ct.div_Engine_newton {e0:Option Addr} {a:Sl} {b:Sl} {w:TW} {X:Nat→Prop} {K:KT [.one .slice,.one .slice]} (h:Sh.div_Engine_newton e0 a b (Rt X [.one .slice,.one .slice] K w) w.here):Ct Pg F.div_Engine_newton [.pointer e0,a.v,b.v] w X [.one .slice,.one .slice] K:=
 cod (Sh.div_Engine_newton e0 a b) 72 [] [] [(2,0,[(6,.one .slice),(7,.one .slice)]),(3,5,[(6,.one .slice),(7,.one .slice)])] f82 h
def Sh.div_Engine_Halves (e0:Option Addr) (a:Sl) (b:Sl) (R:Value→TW→Prop) (w:TW):Prop:=
cl Pg F.api_Nat_Len [b.v] w [.one (.int .i64)] fun (r:Int) w1=>
cond ((r:Int) == 0) (
R (.tuple #[.slice none 0 0,.slice none 0 0,.int .i64 2]) w1) (
cl Pg F.limb_Cmp [a.v,b.v] w1 [.one (.int .i64)] fun (r1:Int) w2=>
cond (decide ((r1:Int)<0)) (
cl Pg F.limb_Norm [a.v] w2 [.one .slice] fun (s:Sl) w3=>
R (.tuple #[.slice none 0 0,s.v,.int .i64 0]) w3) (
Jn [.int .i64,.int .i64] (fun J0=>
Lp [.int .i64,.int .i64] (fun (n:Int) (half:Int) w4 C0=>
nck e0 fun a1=>
ldc (.ptr) w4 a1 fun (v:Option Addr)=>
nck v fun a2=>
ldc (.ptr) w4 a2 fun (v1:Option Addr)=>
nck v1 fun a3=>
ldc (.ptr) w4 a3 fun (v2:Option Addr)=>
nck v2 fun a4=>
ldc (.ptr) w4 a4 fun (v3:Option Addr)=>
nck v3 fun a5=>
ldc (.ptr) w4 a5 fun (v4:Option Addr)=>
nck v4 fun a6=>
ldc (.ptr) w4 a6 fun (v5:Option Addr)=>
nck v5 fun a7=>
ldc (.ptr) w4 a7 fun (v6:Option Addr)=>
nck v6 fun a8=>
ldc (.int .i64) w4 ((a8.add 3).add 3) fun (v7:Int)=>
cond (decide ((n:Int)≥v7)) (
bnd (wi (n+1)) fun n1=>
divK .i64 n1 2 fun n2=>
bnd (wi (half+1)) fun n3=>
C0 n2 n3 w4) (
J0 n half w4)) r 0 w2) fun (n4:Int) (half1:Int) w5=>
bnd (wu (half1)) fun n5=>
shlK .i64 n4 n5 fun n6=>
bnd (wi (n6-r)) fun n7=>
bnd (wi (64*n7)) fun n8=>
bnd (wi (r-1)) fun n9=>
ixa b n9 1 fun a9=>
ldc (.int .u64) w5 a9 fun (v8:Int)=>
cl Pg F.bits_LeadingZeros64 [.int .u64 v8] w5 [.one (.int .i64)] fun (r2:Int) w6=>
bnd (wi (n8+r2)) fun n10=>
cl Pg F.limb_Shl [b.v,.int .i64 n10] w6 [.one .slice] fun (s1:Sl) w7=>
cl Pg F.limb_Shl [a.v,.int .i64 n10] w7 [.one .slice] fun (s2:Sl) w8=>
bnd (wi ((s2.n:Int)+n6)) fun n11=>
bnd (wi (n11-1)) fun n12=>
divK .i64 n12 n6 fun n13=>
bnd (wi (n13-1)) fun n14=>
Jn [.slice,.slice] (fun J1=>
Lp [.slice,.slice,.int .i64] (fun (r3:Sl) (parts:Sl) (i:Int) w9 C1=>
cond (decide ((i:Int)≥0)) (
bnd (wi (i*n6)) fun n15=>
cl Pg F.div_piece [s2.v,.int .i64 n15,.int .i64 n6] w9 [.one .slice] fun (s3:Sl) w10=>
nwb w10 [s3.v,r3.v] T.api_Nat fun b1 w11=>
cl Pg F.limb_Join [.int .i64 n6,.slice (some ⟨b1,0,none⟩) 2 2] w11 [.one .slice] fun (s4:Sl) w12=>
cl Pg F.div_Engine_two [.pointer e0,s4.v,s1.v,.int .i64 n6] w12 [.one .slice,.one .slice] fun (s5:Sl) (s6:Sl) w13=>
nwb w13 [s5.v] T.api_Nat fun b2 w14=>
apd w14 T.api_Nat 1 24 parts ⟨(some ⟨b2,0,none⟩),1,1⟩ fun s7 w15=>
bnd (wi (i-1)) fun n16=>
C1 s6 s7 n16 w15) (
J1 r3 parts w9)) Sl.nil Sl.nil n14 w8) fun (r4:Sl) (parts1:Sl) w16=>
bnd (wi ((parts1.n:Int)-1)) fun n17=>
Jn [] (fun J2=>
Lp [.int .i64,.int .i64] (fun (i1:Int) (j:Int) w17 C2=>
cond (decide ((i1:Int)<j)) (
ixa parts1 j 1 fun a10=>
ldc (.slice) w17.drew a10 fun (v9:Sl)=>
ixa parts1 i1 1 fun a11=>
ldc (.slice) w17.drew a11 fun (v10:Sl)=>
ixa parts1 i1 1 fun a12=>
stc w17.drew a12 v9.v fun w18=>
ixa parts1 j 1 fun a13=>
stc w18 a13 v10.v fun w19=>
bnd (wi (i1+1)) fun n18=>
bnd (wi (j-1)) fun n19=>
C2 n18 n19 w19) (
J2 w17)) 0 n17 w16) fun  w20=>
cl Pg F.limb_Join [.int .i64 n6,parts1.v] w20 [.one .slice] fun (s8:Sl) w21=>
cl Pg F.limb_Shr [r4.v,.int .i64 n10] w21 [.one .slice] fun (s9:Sl) w22=>
R (.tuple #[s8.v,s9.v,.int .i64 0]) w22))
theorem Ct.div_Engine_Halves {e0:Option Addr} {a:Sl} {b:Sl} {w:TW} {X:Nat→Prop} {K:KT [.one .slice,.one .slice,.one (.int .i64)]} (h:Sh.div_Engine_Halves e0 a b (Rt X [.one .slice,.one .slice,.one (.int .i64)] K w) w.here):Ct Pg F.div_Engine_Halves [.pointer e0,a.v,b.v] w X [.one .slice,.one .slice,.one (.int .i64)] K:=
 cod (Sh.div_Engine_Halves e0 a b) 150 [] [] [(2,0,[(10,.one (.int .i64)),(11,.one (.int .i64))]),(3,7,[(10,.one (.int .i64)),(11,.one (.int .i64))]),(2,2,[(7,.one .slice),(15,.one .slice)]),(3,17,[(7,.one .slice),(15,.one .slice),(17,.one (.int .i64))]),(2,4,[]),(3,23,[(19,.one (.int .i64)),(20,.one (.int .i64))])] f83 h
def Sh.div_Engine_two (e0:Option Addr) (a:Sl) (b:Sl) (n:Int) (R:Value→TW→Prop) (w:TW):Prop:=
Jn [.bool] (fun J0=>
remK n 2 fun n1=>
cond ((n1:Int) == 1) (
J0 true w) (
nck e0 fun a1=>
ldc (.ptr) w a1 fun (v:Option Addr)=>
nck v fun a2=>
ldc (.ptr) w a2 fun (v1:Option Addr)=>
nck v1 fun a3=>
ldc (.ptr) w a3 fun (v2:Option Addr)=>
nck v2 fun a4=>
ldc (.ptr) w a4 fun (v3:Option Addr)=>
nck v3 fun a5=>
ldc (.ptr) w a5 fun (v4:Option Addr)=>
nck v4 fun a6=>
ldc (.ptr) w a6 fun (v5:Option Addr)=>
nck v5 fun a7=>
ldc (.ptr) w a7 fun (v6:Option Addr)=>
nck v6 fun a8=>
ldc (.int .i64) w ((a8.add 3).add 3) fun (v7:Int)=>
J0 (decide ((n:Int)<v7)) w)) fun (x:Bool) w1=>
cond x (
nck e0 fun a9=>
ldc (.ptr) w1 a9 fun (v8:Option Addr)=>
nck v8 fun a10=>
ldc (.ptr) w1 a10 fun (v9:Option Addr)=>
cl Pg F.divs_Engine_Long [.pointer v9,a.v,b.v] w1 [.one .slice,.one .slice,.one (.int .i64)] fun (s:Sl) (s1:Sl) (_:Int) w2=>
R (.tuple #[s.v,s1.v]) w2) (
nck e0 fun a11=>
ldc (.ptr) w1 a11 fun (v10:Option Addr)=>
nck v10 fun a12=>
ldc (.ptr) w1 a12 fun (v11:Option Addr)=>
nck v11 fun a13=>
ldc (.ptr) w1 a13 fun (v12:Option Addr)=>
nck v12 fun a14=>
ldc (.ptr) w1 a14 fun (v13:Option Addr)=>
nck v13 fun a15=>
ldc (.ptr) w1 a15 fun (v14:Option Addr)=>
nck v14 fun a16=>
ldc (.ptr) w1 a16 fun (v15:Option Addr)=>
nck v15 fun a17=>
ldc (.ptr) w1 a17 fun (v16:Option Addr)=>
nck v16 fun a18=>
cl Pg F.meter_Meter_Enter [.pointer (some a18)] w1 [.one (.int .i64)] fun (_:Int) w3=>
divK .i64 n 2 fun n2=>
cl Pg F.limb_Split [a.v,.int .i64 n2] w3 [.one .slice,.one .slice] fun (s2:Sl) (s3:Sl) w4=>
cl Pg F.div_Engine_three [.pointer e0,s3.v,b.v,.int .i64 n2] w4 [.one .slice,.one .slice] fun (s4:Sl) (s5:Sl) w5=>
nwb w5 [s2.v,s5.v] T.api_Nat fun b1 w6=>
cl Pg F.limb_Join [.int .i64 n2,.slice (some ⟨b1,0,none⟩) 2 2] w6 [.one .slice] fun (s6:Sl) w7=>
cl Pg F.div_Engine_three [.pointer e0,s6.v,b.v,.int .i64 n2] w7 [.one .slice,.one .slice] fun (s7:Sl) (s8:Sl) w8=>
nck e0 fun a19=>
ldc (.ptr) w8 a19 fun (v17:Option Addr)=>
nck v17 fun a20=>
ldc (.ptr) w8 a20 fun (v18:Option Addr)=>
nck v18 fun a21=>
ldc (.ptr) w8 a21 fun (v19:Option Addr)=>
nck v19 fun a22=>
ldc (.ptr) w8 a22 fun (v20:Option Addr)=>
nck v20 fun a23=>
ldc (.ptr) w8 a23 fun (v21:Option Addr)=>
nck v21 fun a24=>
ldc (.ptr) w8 a24 fun (v22:Option Addr)=>
nck v22 fun a25=>
ldc (.ptr) w8 a25 fun (v23:Option Addr)=>
nck v23 fun a26=>
cl Pg F.meter_Meter_Leave [.pointer (some a26)] w8 [.one (.int .i64)] fun (_:Int) w9=>
nwb w9 [s7.v,s4.v] T.api_Nat fun b2 w10=>
cl Pg F.limb_Join [.int .i64 n2,.slice (some ⟨b2,0,none⟩) 2 2] w10 [.one .slice] fun (s9:Sl) w11=>
R (.tuple #[s9.v,s8.v]) w11)
theorem Ct.div_Engine_two {e0:Option Addr} {a:Sl} {b:Sl} {n:Int} {w:TW} {X:Nat→Prop} {K:KT [.one .slice,.one .slice]} (h:Sh.div_Engine_two e0 a b n (Rt X [.one .slice,.one .slice] K w) w.here):Ct Pg F.div_Engine_two [.pointer e0,a.v,b.v,.int .i64 n] w X [.one .slice,.one .slice] K:=
 cod (Sh.div_Engine_two e0 a b n) 148 [] [] [(0,1,[(47,.one .bool)])] f123 h
def Sh.div_piece (a:Sl) (from0:Int) (n:Int) (R:Value→TW→Prop) (w:TW):Prop:=
cond (decide ((from0:Int)≥(a.n:Int))) (
R (.slice none 0 0) w) (
bnd (wi (from0+n)) fun n1=>
bnd (if (n1:Int)<(a.n:Int) then n1 else (a.n:Int)) fun n2=>
slc a from0 n2 1 fun s=>
cl Pg F.limb_Norm [s.v] w [.one .slice] fun (s1:Sl) w1=>
R (s1.v) w1)
theorem Ct.div_piece {a:Sl} {from0:Int} {n:Int} {w:TW} {X:Nat→Prop} {K:KT [.one .slice]} (h:Sh.div_piece a from0 n (Rt X [.one .slice] K w) w.here):Ct Pg F.div_piece [a.v,.int .i64 from0,.int .i64 n] w X [.one .slice] K:=
 cod (Sh.div_piece a from0 n) 21 [] [] [] f125 h
def Sh.div_Engine_three (e0:Option Addr) (a:Sl) (b:Sl) (h0:Int) (R:Value→TW→Prop) (w:TW):Prop:=
cl Pg F.limb_Split [b.v,.int .i64 h0] w [.one .slice,.one .slice] fun (s:Sl) (s1:Sl) w1=>
cl Pg F.limb_Split [a.v,.int .i64 h0] w1 [.one .slice,.one .slice] fun (s2:Sl) (s3:Sl) w2=>
cl Pg F.limb_Split [s3.v,.int .i64 h0] w2 [.one .slice,.one .slice] fun (_:Sl) (s5:Sl) w3=>
cl Pg F.limb_Cmp [s5.v,s1.v] w3 [.one (.int .i64)] fun (r:Int) w4=>
Jn [.slice,.slice] (fun J0=>
cond (decide ((r:Int)<0)) (
cl Pg F.div_Engine_two [.pointer e0,s3.v,s1.v,.int .i64 h0] w4 [.one .slice,.one .slice] fun (s6:Sl) (s7:Sl) w5=>
J0 s6 s7 w5) (
cl Pg F.limb_One [.int .u64 1] w4 [.one .slice] fun (s8:Sl) w6=>
nwb w6 [.slice none 0 0,s8.v] T.api_Nat fun b1 w7=>
cl Pg F.limb_Join [.int .i64 h0,.slice (some ⟨b1,0,none⟩) 2 2] w7 [.one .slice] fun (s9:Sl) w8=>
cl Pg F.limb_One [.int .u64 1] w8 [.one .slice] fun (s10:Sl) w9=>
cl Pg F.limb_Sub [s9.v,s10.v] w9 [.one .slice,.one .bool] fun (s11:Sl) (_:Bool) w10=>
cl Pg F.limb_Add [s3.v,s1.v] w10 [.one .slice] fun (s12:Sl) w11=>
nwb w11 [.slice none 0 0,s1.v] T.api_Nat fun b2 w12=>
cl Pg F.limb_Join [.int .i64 h0,.slice (some ⟨b2,0,none⟩) 2 2] w12 [.one .slice] fun (s13:Sl) w13=>
cl Pg F.limb_Sub [s12.v,s13.v] w13 [.one .slice,.one .bool] fun (s14:Sl) (_:Bool) w14=>
J0 s11 s14 w14)) fun (q:Sl) (r1:Sl) w15=>
nwb w15 [s2.v,r1.v] T.api_Nat fun b3 w16=>
cl Pg F.limb_Join [.int .i64 h0,.slice (some ⟨b3,0,none⟩) 2 2] w16 [.one .slice] fun (s15:Sl) w17=>
nck e0 fun a1=>
ldc (.ptr) w17 a1 fun (v:Option Addr)=>
nck v fun a2=>
ldc (.ptr) w17 a2 fun (v1:Option Addr)=>
nck v1 fun a3=>
ldc (.ptr) w17 a3 fun (v2:Option Addr)=>
cl Pg F.mul_Engine_Mul [.pointer v2,q.v,s.v] w17 [.one .slice] fun (s16:Sl) w18=>
Jn [.slice,.slice] (fun J1=>
Lp [.slice,.slice] (fun (q1:Sl) (r2:Sl) w19 C0=>
cl Pg F.limb_Cmp [r2.v,s16.v] w19 [.one (.int .i64)] fun (r3:Int) w20=>
cond (decide ((r3:Int)<0)) (
cl Pg F.limb_One [.int .u64 1] w20 [.one .slice] fun (s17:Sl) w21=>
cl Pg F.limb_Sub [q1.v,s17.v] w21 [.one .slice,.one .bool] fun (s18:Sl) (_:Bool) w22=>
cl Pg F.limb_Add [r2.v,b.v] w22 [.one .slice] fun (s19:Sl) w23=>
C0 s18 s19 w23) (
J1 q1 r2 w20)) q s15 w18) fun (q2:Sl) (r4:Sl) w24=>
cl Pg F.limb_Sub [r4.v,s16.v] w24 [.one .slice,.one .bool] fun (s20:Sl) (_:Bool) w25=>
R (.tuple #[q2.v,s20.v]) w25
theorem Ct.div_Engine_three {e0:Option Addr} {a:Sl} {b:Sl} {h0:Int} {w:TW} {X:Nat→Prop} {K:KT [.one .slice,.one .slice]} (h:Sh.div_Engine_three e0 a b h0 (Rt X [.one .slice,.one .slice] K w) w.here):Ct Pg F.div_Engine_three [.pointer e0,a.v,b.v,.int .i64 h0] w X [.one .slice,.one .slice] K:=
 cod (Sh.div_Engine_three e0 a b h0) 106 [] [] [(1,5,[(8,.one .slice),(9,.one .slice)]),(2,0,[(8,.one .slice),(9,.one .slice)]),(3,10,[(8,.one .slice),(9,.one .slice)])] f156 h
def Sh.div_New (t:HL I11) (R:Value→TW→Prop) (w:TW):Prop:=
nwv w fun w1=>
cl Pg F.recip_New [.agg (encs I11 t).toArray] w1 [.one .ptr] fun (p:Option Addr) w2=>
nwb w2 [.pointer p] T.div_Engine fun b w3=>
R (.pointer (some ⟨b,0,none⟩)) w3
theorem Ct.div_New {t:HL I11} {w:TW} {X:Nat→Prop} {K:KT [.one .ptr]} (h:Sh.div_New t (Rt X [.one .ptr] K w) w.here):Ct Pg F.div_New [.agg (encs I11 t).toArray] w X [.one .ptr] K:=
 cod (Sh.div_New t) 7 [(1,7)] [(7,11)] [] f223 h
end Go.Proofs.YtjhfalgmgagdhaaGreatDoor.Zg
end

section
set_option maxRecDepth 100000
namespace Go.Proofs.YtjhfalgmgagdhaaGreatDoor.Zg
open Go.Proofs.Tryz
def Sh.divs_Engine_Long (e0:Option Addr) (a:Sl) (b:Sl) (R:Value→TW→Prop) (w:TW):Prop:=
cl Pg F.api_Nat_Len [a.v] w [.one (.int .i64)] fun (r:Int) w1=>
cl Pg F.api_Nat_Len [b.v] w1 [.one (.int .i64)] fun (r1:Int) w2=>
cond ((r1:Int) == 0) (
R (.tuple #[.slice none 0 0,.slice none 0 0,.int .i64 2]) w2) (
cond (decide ((r:Int)<r1)) (
cl Pg F.limb_Norm [a.v] w2 [.one .slice] fun (s:Sl) w3=>
R (.tuple #[.slice none 0 0,s.v,.int .i64 0]) w3) (
nck e0 fun a1=>
ldc (.ptr) w2 a1 fun (v:Option Addr)=>
nck v fun a2=>
ldc (.ptr) w2 a2 fun (v1:Option Addr)=>
nck v1 fun a3=>
ldc (.ptr) w2 a3 fun (v2:Option Addr)=>
nck v2 fun a4=>
ldc (.ptr) w2 a4 fun (v3:Option Addr)=>
nck v3 fun a5=>
ldc (.ptr) w2 a5 fun (v4:Option Addr)=>
nck v4 fun a6=>
bnd (wi (r-r1)) fun n=>
bnd (wi (n+1)) fun n1=>
bnd (wi (r1+1)) fun n2=>
bnd (wi (n1*n2)) fun n3=>
cl Pg F.meter_Meter_Spend [.pointer (some a6),.int .i64 n3] w2 [.one (.int .i64)] fun (_:Int) w4=>
cond ((r1:Int) == 1) (
ixa b 0 1 fun a7=>
ldc (.int .u64) w4 a7 fun (v5:Int)=>
cl Pg F.limb_DivWord [a.v,.int .u64 v5] w4 [.one .slice,.one (.int .u64),.one (.int .i64)] fun (s1:Sl) (r3:Int) (_:Int) w5=>
cl Pg F.limb_One [.int .u64 r3] w5 [.one .slice] fun (s2:Sl) w6=>
R (.tuple #[s1.v,s2.v,.int .i64 0]) w6) (
bnd (wi (r1-1)) fun n4=>
ixa b n4 1 fun a8=>
ldc (.int .u64) w4 a8 fun (v6:Int)=>
cl Pg F.bits_LeadingZeros64 [.int .u64 v6] w4 [.one (.int .i64)] fun (r5:Int) w7=>
cl Pg F.limb_Shl [b.v,.int .i64 r5] w7 [.one .slice] fun (s3:Sl) w8=>
bnd (wi (r+1)) fun n5=>
mks w8 n5 n5 T.uint64 8 [.int .u64 0] fun s4 w9=>
cl Pg F.limb_Shl [a.v,.int .i64 r5] w9 [.one .slice] fun (s5:Sl) w10=>
cpy w10 T.uint64 s4 s5 fun _ w11=>
bnd (wi (r1-1)) fun n7=>
ixa s3 n7 1 fun a9=>
ldc (.int .u64) w11.drew a9 fun (v7:Int)=>
bnd (wi (r1-2)) fun n8=>
ixa s3 n8 1 fun a10=>
ldc (.int .u64) w11.drew a10 fun (v8:Int)=>
cl Pg F.word_Inverse2 [.int .u64 v7,.int .u64 v8] w11.drew [.one (.int .u64),.one .bool] fun (r6:Int) (_:Bool) w12=>
bnd (wi (r-r1)) fun n9=>
bnd (wi (n9+1)) fun n10=>
mks w12 n10 n10 T.uint64 8 [.int .u64 0] fun s6 w13=>
bnd (wi (r-r1)) fun n11=>
Jn [] (fun J0=>
Lp [.int .i64] (fun (j:Int) w14 C0=>
cond (decide ((j:Int)≥0)) (
bnd (wi (j+r1)) fun n12=>
bnd (wi (n12+1)) fun n13=>
slc s4 j n13 1 fun s7=>
cl Pg F.divs_digit [s7.v,s3.v,.int .u64 r6] w14 [.one (.int .u64)] fun (r7:Int) w15=>
ixa s6 j 1 fun a11=>
stc w15 a11 (.int .u64 r7) fun w16=>
bnd (wi (j-1)) fun n14=>
C0 n14 w16) (
J0 w14)) n11 w13) fun  w17=>
cl Pg F.limb_Norm [s6.v] w17 [.one .slice] fun (s8:Sl) w18=>
cl Pg F.limb_Shr [s4.v,.int .i64 r5] w18 [.one .slice] fun (s9:Sl) w19=>
R (.tuple #[s8.v,s9.v,.int .i64 0]) w19)))
theorem Ct.divs_Engine_Long {e0:Option Addr} {a:Sl} {b:Sl} {w:TW} {X:Nat→Prop} {K:KT [.one .slice,.one .slice,.one (.int .i64)]} (h:Sh.divs_Engine_Long e0 a b (Rt X [.one .slice,.one .slice,.one (.int .i64)] K w) w.here):Ct Pg F.divs_Engine_Long [.pointer e0,a.v,b.v] w X [.one .slice,.one .slice,.one (.int .i64)] K:=
 cod (Sh.divs_Engine_Long e0 a b) 133 [] [] [(2,0,[]),(3,17,[(20,.one (.int .i64))])] f81 h
def Sh.divs_digit (u:Sl) (d:Sl) (v:Int) (R:Value→TW→Prop) (w:TW):Prop:=
ixa u (d.n:Int) 1 fun a=>
ldc (.int .u64) w.drew a fun (v1:Int)=>
bnd (wi ((d.n:Int)-1)) fun n=>
ixa u n 1 fun a1=>
ldc (.int .u64) w.drew a1 fun (v2:Int)=>
bnd (wi ((d.n:Int)-2)) fun n1=>
ixa u n1 1 fun a2=>
ldc (.int .u64) w.drew a2 fun (v3:Int)=>
bnd (wi ((d.n:Int)-1)) fun n2=>
ixa d n2 1 fun a3=>
ldc (.int .u64) w.drew a3 fun (v4:Int)=>
bnd (wi ((d.n:Int)-2)) fun n3=>
ixa d n3 1 fun a4=>
ldc (.int .u64) w.drew a4 fun (v5:Int)=>
cl Pg F.word_Div3 [.int .u64 v1,.int .u64 v2,.int .u64 v3,.int .u64 v4,.int .u64 v5,.int .u64 v] w.drew [.one (.int .u64),.one (.int .u64),.one (.int .u64),.one .bool] fun (r:Int) (_:Int) (_:Int) (ok:Bool) w1=>
Jn [.int .u64] (fun J0=>
cond (!ok) (
J0 18446744073709551615 w1) (
J0 r w1)) fun (q:Int) w2=>
Jn [.int .u64] (fun J1=>
Lp [.int .u64,.int .i64] (fun (c:Int) (i:Int) w3 C0=>
cond (decide ((i:Int)<(d.n:Int))) (
ixa d i 1 fun a5=>
ldc (.int .u64) w3 a5 fun (v6:Int)=>
cl Pg F.bits_Mul64 [.int .u64 q,.int .u64 v6] w3 [.one (.int .u64),.one (.int .u64)] fun (r3:Int) (r4:Int) w4=>
add64 r4 c 0 fun s c1=>
bnd (wu (r3+c1)) fun n4=>
ixa u i 1 fun a6=>
ldc (.int .u64) w4 a6 fun (v7:Int)=>
sub64 v7 s 0 fun s1 c2=>
ixa u i 1 fun a7=>
stc w4 a7 (.int .u64 s1) fun w5=>
bnd (wu (n4+c2)) fun n5=>
bnd (wi (i+1)) fun n6=>
C0 n5 n6 w5) (
J1 c w3)) 0 0 w2) fun (c3:Int) w6=>
ixa u (d.n:Int) 1 fun a8=>
ldc (.int .u64) w6 a8 fun (v8:Int)=>
sub64 v8 c3 0 fun s2 c4=>
ixa u (d.n:Int) 1 fun a9=>
stc w6 a9 (.int .u64 s2) fun w7=>
Jn [.int .u64] (fun J2=>
Lp [.int .u64,.int .u64] (fun (q1:Int) (k:Int) w8 C1=>
cond ((k:Int) != 0) (
bnd (wu (q1-1)) fun n7=>
Jn [.int .u64] (fun J3=>
Lp [.int .u64,.int .i64] (fun (c5:Int) (i1:Int) w9 C2=>
cond (decide ((i1:Int)<(d.n:Int))) (
ixa u i1 1 fun a10=>
ldc (.int .u64) w9.drew a10 fun (v9:Int)=>
ixa d i1 1 fun a11=>
ldc (.int .u64) w9.drew a11 fun (v10:Int)=>
add64 v9 v10 c5 fun s3 c6=>
ixa u i1 1 fun a12=>
stc w9.drew a12 (.int .u64 s3) fun w10=>
bnd (wi (i1+1)) fun n8=>
C2 c6 n8 w10) (
J3 c5 w9)) 0 0 w8) fun (c7:Int) w11=>
ixa u (d.n:Int) 1 fun a13=>
ldc (.int .u64) w11 a13 fun (v11:Int)=>
add64 v11 0 c7 fun s4 c8=>
ixa u (d.n:Int) 1 fun a14=>
stc w11 a14 (.int .u64 s4) fun w12=>
bnd (wu (k-c8)) fun n9=>
C1 n7 n9 w12) (
J2 q1 w8)) q c4 w7) fun (q2:Int) w13=>
R (.int .u64 q2) w13
theorem Ct.divs_digit {u:Sl} {d:Sl} {v:Int} {w:TW} {X:Nat→Prop} {K:KT [.one (.int .u64)]} (h:Sh.divs_digit u d v (Rt X [.one (.int .u64)] K w) w.here):Ct Pg F.divs_digit [u.v,d.v,.int .u64 v] w X [.one (.int .u64)] K:=
 cod (Sh.divs_digit u d v) 147 [] [] [(1,4,[(8,.one (.int .u64))]),(2,0,[(12,.one (.int .u64))]),(3,7,[(12,.one (.int .u64)),(13,.one (.int .i64))]),(2,2,[(8,.one (.int .u64))]),(3,16,[(8,.one (.int .u64)),(18,.one (.int .u64))]),(2,4,[(12,.one (.int .u64))]),(3,20,[(12,.one (.int .u64)),(19,.one (.int .i64))])] f120 h
def Sh.divs_New (t:HL I11) (R:Value→TW→Prop) (w:TW):Prop:=
nwv w fun w1=>
cl Pg F.mul_New [.agg (encs I11 t).toArray] w1 [.one .ptr] fun (p:Option Addr) w2=>
nwb w2 [.pointer p] T.divs_Engine fun b w3=>
R (.pointer (some ⟨b,0,none⟩)) w3
theorem Ct.divs_New {t:HL I11} {w:TW} {X:Nat→Prop} {K:KT [.one .ptr]} (h:Sh.divs_New t (Rt X [.one .ptr] K w) w.here):Ct Pg F.divs_New [.agg (encs I11 t).toArray] w X [.one .ptr] K:=
 cod (Sh.divs_New t) 7 [(1,7)] [(7,11)] [] f235 h
end Go.Proofs.YtjhfalgmgagdhaaGreatDoor.Zg
end

section
set_option maxRecDepth 100000
namespace Go.Proofs.YtjhfalgmgagdhaaGreatDoor.Zg
open Go.Proofs.Tryz
def Sh.gcd_New (t:HL I11) (R:Value→TW→Prop) (w:TW):Prop:=
nwv w fun w1=>
cl Pg F.power_New [.agg (encs I11 t).toArray] w1 [.one .ptr] fun (p:Option Addr) w2=>
nwb w2 [.pointer p] T.gcd_Engine fun b w3=>
R (.pointer (some ⟨b,0,none⟩)) w3
theorem Ct.gcd_New {t:HL I11} {w:TW} {X:Nat→Prop} {K:KT [.one .ptr]} (h:Sh.gcd_New t (Rt X [.one .ptr] K w) w.here):Ct Pg F.gcd_New [.agg (encs I11 t).toArray] w X [.one .ptr] K:=
 cod (Sh.gcd_New t) 7 [(1,7)] [(7,11)] [] f77 h
end Go.Proofs.YtjhfalgmgagdhaaGreatDoor.Zg
end
