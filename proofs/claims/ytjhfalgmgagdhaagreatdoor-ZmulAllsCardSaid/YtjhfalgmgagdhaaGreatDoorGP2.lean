/- A part of the proofs of this seat's laws: words, lemmas or contracts of its functions. -/
import Derived.Test.YtjhfalgmgagdhaaGreatDoorGC
set_option linter.unusedVariables false
set_option linter.unusedSimpArgs false
set_option linter.unnecessarySimpa false
section
set_option maxRecDepth 100000
namespace Go.Proofs.YtjhfalgmgagdhaaGreatDoor.Zg
open Go.Proofs.Tryz
def Sh.modw_Mod_Red (m:Option Addr) (a:Int) (R:Value→TW→Prop) (w:TW):Prop:=
nck m fun a1=>
ldc (.int .u64) w a1 fun (v:Int)=>
remK a v fun n=>
R (.int .u64 n) w
theorem Ct.modw_Mod_Red {m:Option Addr} {a:Int} {w:TW} {X:Nat→Prop} {K:KT [.one (.int .u64)]} (h:Sh.modw_Mod_Red m a (Rt X [.one (.int .u64)] K w) w.here):Ct Pg F.modw_Mod_Red [.pointer m,.int .u64 a] w X [.one (.int .u64)] K:=
 cod (Sh.modw_Mod_Red m a) 11 [] [] [] f167 h
def Sh.modw_Mod_Add (m:Option Addr) (a:Int) (b:Int) (R:Value→TW→Prop) (w:TW):Prop:=
nck m fun a1=>
ldc (.int .u64) w.drew a1 fun (v:Int)=>
remK a v fun n=>
nck m fun a2=>
ldc (.int .u64) w.drew a2 fun (v1:Int)=>
remK b v1 fun n1=>
cl Pg F.modw_Mod_add [.pointer m,.int .u64 n,.int .u64 n1] w.drew [.one (.int .u64)] fun (r:Int) w1=>
hld w1 [(a2,.int .u64 v1),(a1,.int .u64 v)] <|
R (.int .u64 r) w1
theorem Ct.modw_Mod_Add {m:Option Addr} {a:Int} {b:Int} {w:TW} {X:Nat→Prop} {K:KT [.one (.int .u64)]} (h:Sh.modw_Mod_Add m a b (Rt X [.one (.int .u64)] K w) w.here):Ct Pg F.modw_Mod_Add [.pointer m,.int .u64 a,.int .u64 b] w X [.one (.int .u64)] K:=
 cod (Sh.modw_Mod_Add m a b) 21 [] [] [] f169 h
def Sh.modw_Mod_Mul (m:Option Addr) (a:Int) (b:Int) (R:Value→TW→Prop) (w:TW):Prop:=
nck m fun a1=>
ldc (.int .u64) w.drew a1 fun (v:Int)=>
remK a v fun n=>
nck m fun a2=>
ldc (.int .u64) w.drew a2 fun (v1:Int)=>
remK b v1 fun n1=>
cl Pg F.modw_Mod_mul [.pointer m,.int .u64 n,.int .u64 n1] w.drew [.one (.int .u64)] fun (r:Int) w1=>
hld w1 [(a2,.int .u64 v1),(a1,.int .u64 v)] <|
R (.int .u64 r) w1
theorem Ct.modw_Mod_Mul {m:Option Addr} {a:Int} {b:Int} {w:TW} {X:Nat→Prop} {K:KT [.one (.int .u64)]} (h:Sh.modw_Mod_Mul m a b (Rt X [.one (.int .u64)] K w) w.here):Ct Pg F.modw_Mod_Mul [.pointer m,.int .u64 a,.int .u64 b] w X [.one (.int .u64)] K:=
 cod (Sh.modw_Mod_Mul m a b) 21 [] [] [] f170 h
def Sh.modw_Mod_P (m:Option Addr) (R:Value→TW→Prop) (w:TW):Prop:=
nck m fun a=>
ldc (.int .u64) w a fun (v:Int)=>
R (.int .u64 v) w
theorem Ct.modw_Mod_P {m:Option Addr} {w:TW} {X:Nat→Prop} {K:KT [.one (.int .u64)]} (h:Sh.modw_Mod_P m (Rt X [.one (.int .u64)] K w) w.here):Ct Pg F.modw_Mod_P [.pointer m] w X [.one (.int .u64)] K:=
 cod (Sh.modw_Mod_P m) 7 [] [] [] f176 h
def Sh.modw_New (p:Int) (R:Value→TW→Prop) (w:TW):Prop:=
Jn [.bool] (fun J0=>
cond (decide ((p:Int)<3)) (
J0 true w) (
remK p 2 fun n=>
cond ((n:Int) == 0) (
J0 true w) (
J0 (decide ((p:Int)≥4611686018427387904)) w))) fun (x:Bool) w1=>
cond x (
R (.tuple #[.pointer none,.int .i64 3]) w1) (
Jn [.int .u64] (fun J1=>
Lp [.int .u64,.int .i64] (fun (inv:Int) (x1:Int) w2 C0=>
cond (decide ((x1:Int)<6)) (
bnd (wu (p*inv)) fun n1=>
bnd (wu (2-n1)) fun n2=>
bnd (wu (inv*n2)) fun n3=>
bnd (wi (x1+1)) fun n4=>
C0 n3 n4 w2) (
J1 inv w2)) p 0 w1) fun (inv1:Int) w3=>
bnd (wu (0-inv1)) fun n5=>
nwb w3 [.int .u64 p,.int .u64 n5,.int .u64 0,.int .u64 0] T.modw_Mod fun b w4=>
cl Pg F.bits_Div64 [.int .u64 1,.int .u64 0,.int .u64 p] w4 [.one (.int .u64),.one (.int .u64)] fun (_:Int) (r1:Int) w5=>
stc w5 (Addr.add ⟨b,0,none⟩ 2) (.int .u64 r1) fun w6=>
ldc (.int .u64) w6.drew (Addr.add ⟨b,0,none⟩ 2) fun (v:Int)=>
ldc (.int .u64) w6.drew (Addr.add ⟨b,0,none⟩ 2) fun (v1:Int)=>
cl Pg F.modw_Mod_mul [.pointer (some ⟨b,0,none⟩),.int .u64 v,.int .u64 v1] w6.drew [.one (.int .u64)] fun (r2:Int) w7=>
stc w7 (Addr.add ⟨b,0,none⟩ 3) (.int .u64 r2) fun w8=>
R (.tuple #[.pointer (some ⟨b,0,none⟩),.int .i64 0]) w8)
theorem Ct.modw_New {p:Int} {w:TW} {X:Nat→Prop} {K:KT [.one .ptr,.one (.int .i64)]} (h:Sh.modw_New p (Rt X [.one .ptr,.one (.int .i64)] K w) w.here):Ct Pg F.modw_New [.int .u64 p] w X [.one .ptr,.one (.int .i64)] K:=
 cod (Sh.modw_New p) 54 [] [] [(0,1,[(16,.one .bool)]),(2,0,[(4,.one (.int .u64))]),(3,5,[(4,.one (.int .u64)),(18,.one (.int .i64))])] f196 h
def Sh.modw_Mod_add (m:Option Addr) (a:Int) (b:Int) (R:Value→TW→Prop) (w:TW):Prop:=
bnd (wu (a+b)) fun n=>
nck m fun a1=>
ldc (.int .u64) w a1 fun (v:Int)=>
Jn [.int .u64] (fun J0=>
cond (decide ((n:Int)≥v)) (
nck m fun a2=>
ldc (.int .u64) w a2 fun (v1:Int)=>
bnd (wu (n-v1)) fun n1=>
J0 n1 w) (
J0 n w)) fun (s:Int) w1=>
R (.int .u64 s) w1
theorem Ct.modw_Mod_add {m:Option Addr} {a:Int} {b:Int} {w:TW} {X:Nat→Prop} {K:KT [.one (.int .u64)]} (h:Sh.modw_Mod_add m a b (Rt X [.one (.int .u64)] K w) w.here):Ct Pg F.modw_Mod_add [.pointer m,.int .u64 a,.int .u64 b] w X [.one (.int .u64)] K:=
 cod (Sh.modw_Mod_add m a b) 24 [] [] [(1,3,[(7,.one (.int .u64))])] f197 h
def Sh.modw_Mod_mul (m:Option Addr) (a:Int) (b:Int) (R:Value→TW→Prop) (w:TW):Prop:=
cl Pg F.bits_Mul64 [.int .u64 a,.int .u64 b] w [.one (.int .u64),.one (.int .u64)] fun (r:Int) (r1:Int) w1=>
nck m fun a1=>
ldc (.int .u64) w1 a1 fun (v:Int)=>
cl Pg F.bits_Div64 [.int .u64 r,.int .u64 r1,.int .u64 v] w1 [.one (.int .u64),.one (.int .u64)] fun (_:Int) (r3:Int) w2=>
R (.int .u64 r3) w2
theorem Ct.modw_Mod_mul {m:Option Addr} {a:Int} {b:Int} {w:TW} {X:Nat→Prop} {K:KT [.one (.int .u64)]} (h:Sh.modw_Mod_mul m a b (Rt X [.one (.int .u64)] K w) w.here):Ct Pg F.modw_Mod_mul [.pointer m,.int .u64 a,.int .u64 b] w X [.one (.int .u64)] K:=
 cod (Sh.modw_Mod_mul m a b) 28 [] [] [] f198 h
def Sh.modw_Mod_Sub (m:Option Addr) (a:Int) (b:Int) (R:Value→TW→Prop) (w:TW):Prop:=
nck m fun a1=>
ldc (.int .u64) w.drew a1 fun (v:Int)=>
remK a v fun n=>
nck m fun a2=>
ldc (.int .u64) w.drew a2 fun (v1:Int)=>
remK b v1 fun n1=>
cl Pg F.modw_Mod_sub [.pointer m,.int .u64 n,.int .u64 n1] w.drew [.one (.int .u64)] fun (r:Int) w1=>
hld w1 [(a2,.int .u64 v1),(a1,.int .u64 v)] <|
R (.int .u64 r) w1
theorem Ct.modw_Mod_Sub {m:Option Addr} {a:Int} {b:Int} {w:TW} {X:Nat→Prop} {K:KT [.one (.int .u64)]} (h:Sh.modw_Mod_Sub m a b (Rt X [.one (.int .u64)] K w) w.here):Ct Pg F.modw_Mod_Sub [.pointer m,.int .u64 a,.int .u64 b] w X [.one (.int .u64)] K:=
 cod (Sh.modw_Mod_Sub m a b) 21 [] [] [] f199 h
def Sh.modw_Mod_sub (m:Option Addr) (a:Int) (b:Int) (R:Value→TW→Prop) (w:TW):Prop:=
cond (decide ((a:Int)≥b)) (
bnd (wu (a-b)) fun n=>
R (.int .u64 n) w) (
nck m fun a1=>
ldc (.int .u64) w a1 fun (v:Int)=>
bnd (wu (a+v)) fun n1=>
bnd (wu (n1-b)) fun n2=>
R (.int .u64 n2) w)
theorem Ct.modw_Mod_sub {m:Option Addr} {a:Int} {b:Int} {w:TW} {X:Nat→Prop} {K:KT [.one (.int .u64)]} (h:Sh.modw_Mod_sub m a b (Rt X [.one (.int .u64)] K w) w.here):Ct Pg F.modw_Mod_sub [.pointer m,.int .u64 a,.int .u64 b] w X [.one (.int .u64)] K:=
 cod (Sh.modw_Mod_sub m a b) 21 [] [] [] f216 h
def Sh.modw_Mod_Inv (m:Option Addr) (a:Int) (R:Value→TW→Prop) (w:TW):Prop:=
nck m fun a1=>
ldc (.int .u64) w.drew a1 fun (v:Int)=>
nck m fun a2=>
ldc (.int .u64) w.drew a2 fun (v1:Int)=>
remK a v1 fun n=>
Jn [.int .u64,.int .u64] (fun J0=>
Lp [.int .u64,.int .u64,.int .u64,.int .u64] (fun (r:Int) (s:Int) (x:Int) (y:Int) w1 C0=>
cond (decide ((s:Int)>0)) (
divK .u64 r s fun n1=>
bnd (wu (n1*s)) fun n2=>
bnd (wu (r-n2)) fun n3=>
nck m fun a3=>
ldc (.int .u64) w1 a3 fun (v2:Int)=>
remK n1 v2 fun n4=>
cl Pg F.modw_Mod_mul [.pointer m,.int .u64 n4,.int .u64 y] w1 [.one (.int .u64)] fun (r1:Int) w2=>
cl Pg F.modw_Mod_sub [.pointer m,.int .u64 x,.int .u64 r1] w2 [.one (.int .u64)] fun (r2:Int) w3=>
C0 s n3 y r2 w3) (
J0 r x w1)) v n 0 1 w.drew) fun (r3:Int) (x1:Int) w4=>
cond ((r3:Int) != 1) (
R (.tuple #[.int .u64 0,.bool false]) w4) (
R (.tuple #[.int .u64 x1,.bool true]) w4)
theorem Ct.modw_Mod_Inv {m:Option Addr} {a:Int} {w:TW} {X:Nat→Prop} {K:KT [.one (.int .u64),.one .bool]} (h:Sh.modw_Mod_Inv m a (Rt X [.one (.int .u64),.one .bool] K w) w.here):Ct Pg F.modw_Mod_Inv [.pointer m,.int .u64 a] w X [.one (.int .u64),.one .bool] K:=
 cod (Sh.modw_Mod_Inv m a) 48 [] [] [(2,0,[(6,.one (.int .u64)),(8,.one (.int .u64))]),(3,3,[(6,.one (.int .u64)),(7,.one (.int .u64)),(8,.one (.int .u64)),(9,.one (.int .u64))])] f225 h
def Sh.modw_Mod_Pow (m:Option Addr) (a:Int) (n:Int) (R:Value→TW→Prop) (w:TW):Prop:=
nck m fun a1=>
ldc (.int .u64) w.drew a1 fun (v:Int)=>
remK a v fun n1=>
nck m fun a2=>
ldc (.int .u64) w.drew (a2.add 2) fun (v1:Int)=>
cl Pg F.modw_Mod_mont [.pointer m,.int .u64 n1] w.drew [.one (.int .u64)] fun (r:Int) w1=>
hld w1 [((a2.add 2),.int .u64 v1),(a1,.int .u64 v)] <|
Jn [.int .u64] (fun J0=>
Lp [.int .u64,.int .u64,.int .u64] (fun (n2:Int) (x:Int) (out:Int) w2 C0=>
cond (decide ((n2:Int)>0)) (
remK n2 2 fun n3=>
Jn [.int .u64] (fun J1=>
cond ((n3:Int) == 1) (
cl Pg F.bits_Mul64 [.int .u64 out,.int .u64 x] w2 [.one (.int .u64),.one (.int .u64)] fun (r1:Int) (r2:Int) w3=>
cl Pg F.modw_Mod_redc [.pointer m,.int .u64 r1,.int .u64 r2] w3 [.one (.int .u64)] fun (r3:Int) w4=>
J1 r3 w4) (
J1 out w2)) fun (out1:Int) w5=>
cl Pg F.bits_Mul64 [.int .u64 x,.int .u64 x] w5 [.one (.int .u64),.one (.int .u64)] fun (r4:Int) (r5:Int) w6=>
cl Pg F.modw_Mod_redc [.pointer m,.int .u64 r4,.int .u64 r5] w6 [.one (.int .u64)] fun (r6:Int) w7=>
divK .u64 n2 2 fun n4=>
C0 n4 r6 out1 w7) (
J0 out w2)) n r v1 w1) fun (out2:Int) w8=>
cl Pg F.modw_Mod_redc [.pointer m,.int .u64 0,.int .u64 out2] w8 [.one (.int .u64)] fun (r7:Int) w9=>
R (.int .u64 r7) w9
theorem Ct.modw_Mod_Pow {m:Option Addr} {a:Int} {n:Int} {w:TW} {X:Nat→Prop} {K:KT [.one (.int .u64)]} (h:Sh.modw_Mod_Pow m a n (Rt X [.one (.int .u64)] K w) w.here):Ct Pg F.modw_Mod_Pow [.pointer m,.int .u64 a,.int .u64 n] w X [.one (.int .u64)] K:=
 cod (Sh.modw_Mod_Pow m a n) 45 [] [] [(2,0,[(8,.one (.int .u64))]),(3,2,[(2,.one (.int .u64)),(7,.one (.int .u64)),(8,.one (.int .u64))]),(1,4,[(8,.one (.int .u64))])] f231 h
def Sh.modw_Mod_Shoup (m:Option Addr) (y:Int) (R:Value→TW→Prop) (w:TW):Prop:=
nck m fun a=>
ldc (.int .u64) w.drew a fun (v:Int)=>
remK y v fun n=>
nck m fun a1=>
ldc (.int .u64) w.drew a1 fun (v1:Int)=>
cl Pg F.bits_Div64 [.int .u64 n,.int .u64 0,.int .u64 v1] w.drew [.one (.int .u64),.one (.int .u64)] fun (r:Int) (_:Int) w1=>
hld w1 [(a,.int .u64 v)] <|
R (.int .u64 r) w1
theorem Ct.modw_Mod_Shoup {m:Option Addr} {y:Int} {w:TW} {X:Nat→Prop} {K:KT [.one (.int .u64)]} (h:Sh.modw_Mod_Shoup m y (Rt X [.one (.int .u64)] K w) w.here):Ct Pg F.modw_Mod_Shoup [.pointer m,.int .u64 y] w X [.one (.int .u64)] K:=
 cod (Sh.modw_Mod_Shoup m y) 22 [] [] [] f232 h
def Sh.modw_Mod_mont (m:Option Addr) (a:Int) (R:Value→TW→Prop) (w:TW):Prop:=
nck m fun a1=>
ldc (.int .u64) w (a1.add 3) fun (v:Int)=>
cl Pg F.bits_Mul64 [.int .u64 a,.int .u64 v] w [.one (.int .u64),.one (.int .u64)] fun (r:Int) (r1:Int) w1=>
cl Pg F.modw_Mod_redc [.pointer m,.int .u64 r,.int .u64 r1] w1 [.one (.int .u64)] fun (r2:Int) w2=>
R (.int .u64 r2) w2
theorem Ct.modw_Mod_mont {m:Option Addr} {a:Int} {w:TW} {X:Nat→Prop} {K:KT [.one (.int .u64)]} (h:Sh.modw_Mod_mont m a (Rt X [.one (.int .u64)] K w) w.here):Ct Pg F.modw_Mod_mont [.pointer m,.int .u64 a] w X [.one (.int .u64)] K:=
 cod (Sh.modw_Mod_mont m a) 15 [] [] [] f236 h
def Sh.modw_Mod_redc (m:Option Addr) (hi:Int) (lo:Int) (R:Value→TW→Prop) (w:TW):Prop:=
nck m fun a=>
ldc (.int .u64) w (a.add 1) fun (v:Int)=>
bnd (wu (lo*v)) fun n=>
nck m fun a1=>
ldc (.int .u64) w a1 fun (v1:Int)=>
cl Pg F.bits_Mul64 [.int .u64 n,.int .u64 v1] w [.one (.int .u64),.one (.int .u64)] fun (r:Int) (r1:Int) w1=>
add64 lo r1 0 fun _ c=>
add64 hi r c fun s1 _=>
nck m fun a2=>
ldc (.int .u64) w1 a2 fun (v2:Int)=>
Jn [.int .u64] (fun J0=>
cond (decide ((s1:Int)≥v2)) (
nck m fun a3=>
ldc (.int .u64) w1 a3 fun (v3:Int)=>
bnd (wu (s1-v3)) fun n1=>
J0 n1 w1) (
J0 s1 w1)) fun (s2:Int) w2=>
R (.int .u64 s2) w2
theorem Ct.modw_Mod_redc {m:Option Addr} {hi:Int} {lo:Int} {w:TW} {X:Nat→Prop} {K:KT [.one (.int .u64)]} (h:Sh.modw_Mod_redc m hi lo (Rt X [.one (.int .u64)] K w) w.here):Ct Pg F.modw_Mod_redc [.pointer m,.int .u64 hi,.int .u64 lo] w X [.one (.int .u64)] K:=
 cod (Sh.modw_Mod_redc m hi lo) 55 [] [] [(1,6,[(12,.one (.int .u64))])] f237 h
def Sh.modw_Mod_ShoupMul (m:Option Addr) (a:Int) (y:Int) (s:Int) (R:Value→TW→Prop) (w:TW):Prop:=
nck m fun a1=>
ldc (.int .u64) w.drew a1 fun (v:Int)=>
remK a v fun n=>
nck m fun a2=>
ldc (.int .u64) w.drew a2 fun (v1:Int)=>
remK y v1 fun n1=>
cl Pg F.bits_Mul64 [.int .u64 n,.int .u64 s] w.drew [.one (.int .u64),.one (.int .u64)] fun (r:Int) (_:Int) w1=>
bnd (wu (n*n1)) fun n2=>
nck m fun a3=>
ldc (.int .u64) w1 a3 fun (v2:Int)=>
bnd (wu (r*v2)) fun n3=>
bnd (wu (n2-n3)) fun n4=>
nck m fun a4=>
ldc (.int .u64) w1 a4 fun (v3:Int)=>
Jn [.int .u64] (fun J0=>
cond (decide ((n4:Int)≥v3)) (
nck m fun a5=>
ldc (.int .u64) w1 a5 fun (v4:Int)=>
bnd (wu (n4-v4)) fun n5=>
J0 n5 w1) (
J0 n4 w1)) fun (r2:Int) w2=>
nck m fun a6=>
ldc (.int .u64) w2 a6 fun (v5:Int)=>
remK r2 v5 fun n6=>
R (.int .u64 n6) w2
theorem Ct.modw_Mod_ShoupMul {m:Option Addr} {a:Int} {y:Int} {s:Int} {w:TW} {X:Nat→Prop} {K:KT [.one (.int .u64)]} (h:Sh.modw_Mod_ShoupMul m a y s (Rt X [.one (.int .u64)] K w) w.here):Ct Pg F.modw_Mod_ShoupMul [.pointer m,.int .u64 a,.int .u64 y,.int .u64 s] w X [.one (.int .u64)] K:=
 cod (Sh.modw_Mod_ShoupMul m a y s) 58 [] [] [(1,5,[(11,.one (.int .u64))])] f239 h
end Go.Proofs.YtjhfalgmgagdhaaGreatDoor.Zg
end

section
set_option maxRecDepth 100000
namespace Go.Proofs.YtjhfalgmgagdhaaGreatDoor.Zg
open Go.Proofs.Tryz
def Sh.mul_Engine_Mul (e0:Option Addr) (a:Sl) (b:Sl) (R:Value→TW→Prop) (w:TW):Prop:=
cl Pg F.mul_words [a.v] w [.one .slice] fun (s:Sl) w1=>
cl Pg F.mul_words [b.v] w1 [.one .slice] fun (s1:Sl) w2=>
cl Pg F.mul_Engine_times [.pointer e0,s.v,s1.v] w2 [.one .slice] fun (s2:Sl) w3=>
R (s2.v) w3
theorem Ct.mul_Engine_Mul {e0:Option Addr} {a:Sl} {b:Sl} {w:TW} {X:Nat→Prop} {K:KT [.one .slice]} (h:Sh.mul_Engine_Mul e0 a b (Rt X [.one .slice] K w) w.here):Ct Pg F.mul_Engine_Mul [.pointer e0,a.v,b.v] w X [.one .slice] K:=
 cod (Sh.mul_Engine_Mul e0 a b) 13 [] [] [] f45 h
def Sh.mul_Engine_times (e0:Option Addr) (a:Sl) (b:Sl) (R:Value→TW→Prop) (w:TW):Prop:=
Jn [.bool] (fun J0=>
cond (decide (((a.n:Int):Int)>16384)) (
J0 true w) (
J0 (decide (((b.n:Int):Int)>16384)) w)) fun (x:Bool) w1=>
cond x (
cl Pg F.mul_Engine_long [.pointer e0,a.v,b.v] w1 [.one .slice] fun (s:Sl) w2=>
R (s.v) w2) (
nck e0 fun a1=>
ldc (.ptr) w1 a1 fun (v:Option Addr)=>
nck v fun a2=>
ldc (.ptr) w1 a2 fun (v1:Option Addr)=>
nck v1 fun a3=>
ldc (.ptr) w1 a3 fun (v2:Option Addr)=>
nck v2 fun a4=>
ldc (.ptr) w1 a4 fun (v3:Option Addr)=>
cl Pg F.table_Tune_Route [.pointer v3,.int .i64 (a.n:Int),.int .i64 (b.n:Int)] w1 [.one (.int .i64)] fun (r:Int) w3=>
cl Pg F.mul_Engine_gone [.pointer e0,.int .i64 r,a.v,b.v] w3 [.one .slice,.one .bool] fun (s1:Sl) (ok:Bool) w4=>
cond (!ok) (
nck e0 fun a5=>
ldc (.ptr) w4 a5 fun (v4:Option Addr)=>
nck v4 fun a6=>
ldc (.ptr) w4 a6 fun (v5:Option Addr)=>
nck v5 fun a7=>
ldc (.ptr) w4 a7 fun (v6:Option Addr)=>
cl Pg F.school_Engine_Mul [.pointer v6,a.v,b.v] w4 [.one .slice] fun (s2:Sl) w5=>
R (s2.v) w5) (
R (s1.v) w4))
theorem Ct.mul_Engine_times {e0:Option Addr} {a:Sl} {b:Sl} {w:TW} {X:Nat→Prop} {K:KT [.one .slice]} (h:Sh.mul_Engine_times e0 a b (Rt X [.one .slice] K w) w.here):Ct Pg F.mul_Engine_times [.pointer e0,a.v,b.v] w X [.one .slice] K:=
 cod (Sh.mul_Engine_times e0 a b) 62 [] [] [(0,1,[(16,.one .bool)])] f87 h
def Sh.mul_words (a:Sl) (R:Value→TW→Prop) (w:TW):Prop:=
cl Pg F.api_Nat_Len [a.v] w [.one (.int .i64)] fun (r:Int) w1=>
slc a 0 r 1 fun s=>
R (s.v) w1
theorem Ct.mul_words {a:Sl} {w:TW} {X:Nat→Prop} {K:KT [.one .slice]} (h:Sh.mul_words a (Rt X [.one .slice] K w) w.here):Ct Pg F.mul_words [a.v] w X [.one .slice] K:=
 cod (Sh.mul_words a) 7 [] [] [] f88 h
def Sh.mul_Engine_long (e0:Option Addr) (a:Sl) (b:Sl) (R:Value→TW→Prop) (w:TW):Prop:=
cl Pg F.mul_Engine_pieces [.pointer e0,a.v,b.v,.int .i64 16384] w [.one .slice] fun (s:Sl) w1=>
R (s.v) w1
theorem Ct.mul_Engine_long {e0:Option Addr} {a:Sl} {b:Sl} {w:TW} {X:Nat→Prop} {K:KT [.one .slice]} (h:Sh.mul_Engine_long e0 a b (Rt X [.one .slice] K w) w.here):Ct Pg F.mul_Engine_long [.pointer e0,a.v,b.v] w X [.one .slice] K:=
 cod (Sh.mul_Engine_long e0 a b) 11 [] [] [] f126 h
def Sh.mul_Engine_gone (e0:Option Addr) (route:Int) (a:Sl) (b:Sl) (R:Value→TW→Prop) (w:TW):Prop:=
cond ((route:Int) == 0) (
R (.tuple #[.slice none 0 0,.bool true]) w) (
cond ((route:Int) == 1) (
nck e0 fun a1=>
ldc (.ptr) w a1 fun (v:Option Addr)=>
nck v fun a2=>
ldc (.ptr) w a2 fun (v1:Option Addr)=>
nck v1 fun a3=>
ldc (.ptr) w a3 fun (v2:Option Addr)=>
cl Pg F.school_Engine_Mul [.pointer v2,a.v,b.v] w [.one .slice] fun (s:Sl) w1=>
R (.tuple #[s.v,.bool true]) w1) (
cond ((route:Int) == 2) (
cl Pg F.mul_Engine_block [.pointer e0,a.v,b.v] w [.one .slice] fun (s1:Sl) w2=>
R (.tuple #[s1.v,.bool true]) w2) (
cond ((route:Int) == 3) (
nck e0 fun a4=>
ldc (.ptr) w a4 fun (v3:Option Addr)=>
nck v3 fun a5=>
ldc (.ptr) w a5 fun (v4:Option Addr)=>
cl Pg F.kara_Engine_Kara [.pointer v4,a.v,b.v,.func (.func F.mul_Engine_times) #[.pointer e0] #[]] w [.one .slice,.one .bool] fun (s2:Sl) (ok:Bool) w3=>
R (.tuple #[s2.v,.bool ok]) w3) (
cond ((route:Int) == 4) (
nck e0 fun a6=>
ldc (.ptr) w a6 fun (v5:Option Addr)=>
cl Pg F.toom_Engine_Toom [.pointer v5,a.v,b.v,.func (.func F.mul_Engine_times) #[.pointer e0] #[]] w [.one .slice,.one .bool] fun (s3:Sl) (ok1:Bool) w4=>
R (.tuple #[s3.v,.bool ok1]) w4) (
cond ((route:Int) == 5) (
nck e0 fun a7=>
ldc (.ptr) w a7 fun (v6:Option Addr)=>
nck v6 fun a8=>
ldc (.ptr) w a8 fun (v7:Option Addr)=>
nck v7 fun a9=>
ldc (.ptr) w a9 fun (v8:Option Addr)=>
nck v8 fun a10=>
ldc (.ptr) w a10 fun (v9:Option Addr)=>
nck v9 fun a11=>
cl Pg F.conv_Mul [.pointer (some a11),a.v,b.v] w [.one .slice,.one .bool] fun (s4:Sl) (ok2:Bool) w5=>
R (.tuple #[s4.v,.bool ok2]) w5) (
R (.tuple #[.slice none 0 0,.bool false]) w))))))
theorem Ct.mul_Engine_gone {e0:Option Addr} {route:Int} {a:Sl} {b:Sl} {w:TW} {X:Nat→Prop} {K:KT [.one .slice,.one .bool]} (h:Sh.mul_Engine_gone e0 route a b (Rt X [.one .slice,.one .bool] K w) w.here):Ct Pg F.mul_Engine_gone [.pointer e0,.int .i64 route,a.v,b.v] w X [.one .slice,.one .bool] K:=
 cod (Sh.mul_Engine_gone e0 route a b) 85 [] [] [] f127 h
def Sh.mul_Engine_pieces (e0:Option Addr) (a:Sl) (b:Sl) (n:Int) (R:Value→TW→Prop) (w:TW):Prop:=
Jn [.slice,.slice] (fun J0=>
cond (decide (((a.n:Int):Int)<(b.n:Int))) (
J0 b a w) (
J0 a b w)) fun (a1:Sl) (b1:Sl) w1=>
Jn [.slice] (fun J1=>
Lp [.slice,.int .i64] (fun (parts:Sl) (from0:Int) w2 C0=>
cond (decide ((from0:Int)<(a1.n:Int))) (
bnd (wi (from0+n)) fun n1=>
bnd (if (n1:Int)<(a1.n:Int) then n1 else (a1.n:Int)) fun n2=>
slc a1 from0 n2 1 fun s=>
apd w2 T.uint64 1 8 Sl.nil s fun s1 w3=>
cl Pg F.mul_Engine_times [.pointer e0,s1.v,b1.v] w3 [.one .slice] fun (s2:Sl) w4=>
nwb w4 [s2.v] T.api_Nat fun b2 w5=>
apd w5 T.api_Nat 1 24 parts ⟨(some ⟨b2,0,none⟩),1,1⟩ fun s3 w6=>
bnd (wi (from0+n)) fun n3=>
C0 s3 n3 w6) (
J1 parts w2)) Sl.nil 0 w1) fun (parts1:Sl) w7=>
cl Pg F.limb_Join [.int .i64 n,parts1.v] w7 [.one .slice] fun (s4:Sl) w8=>
R (s4.v) w8
theorem Ct.mul_Engine_pieces {e0:Option Addr} {a:Sl} {b:Sl} {n:Int} {w:TW} {X:Nat→Prop} {K:KT [.one .slice]} (h:Sh.mul_Engine_pieces e0 a b n (Rt X [.one .slice] K w) w.here):Ct Pg F.mul_Engine_pieces [.pointer e0,a.v,b.v,.int .i64 n] w X [.one .slice] K:=
 cod (Sh.mul_Engine_pieces e0 a b n) 44 [] [] [(1,2,[(1,.one .slice),(2,.one .slice)]),(2,0,[(9,.one .slice)]),(3,5,[(9,.one .slice),(10,.one (.int .i64))])] f158 h
def Sh.mul_Engine_block (e0:Option Addr) (a:Sl) (b:Sl) (R:Value→TW→Prop) (w:TW):Prop:=
nck e0 fun a1=>
ldc (.ptr) w a1 fun (v:Option Addr)=>
nck v fun a2=>
ldc (.ptr) w a2 fun (v1:Option Addr)=>
nck v1 fun a3=>
ldc (.ptr) w a3 fun (v2:Option Addr)=>
nck v2 fun a4=>
ldc (.ptr) w a4 fun (v3:Option Addr)=>
nck v3 fun a5=>
cl Pg F.meter_Meter_Enter [.pointer (some a5)] w [.one (.int .i64)] fun (_:Int) w1=>
bnd (if ((b.n:Int):Int)<(a.n:Int) then (b.n:Int) else (a.n:Int)) fun n=>
cl Pg F.mul_Engine_pieces [.pointer e0,a.v,b.v,.int .i64 n] w1 [.one .slice] fun (s:Sl) w2=>
nck e0 fun a6=>
ldc (.ptr) w2 a6 fun (v4:Option Addr)=>
nck v4 fun a7=>
ldc (.ptr) w2 a7 fun (v5:Option Addr)=>
nck v5 fun a8=>
ldc (.ptr) w2 a8 fun (v6:Option Addr)=>
nck v6 fun a9=>
ldc (.ptr) w2 a9 fun (v7:Option Addr)=>
nck v7 fun a10=>
cl Pg F.meter_Meter_Leave [.pointer (some a10)] w2 [.one (.int .i64)] fun (_:Int) w3=>
R (s.v) w3
theorem Ct.mul_Engine_block {e0:Option Addr} {a:Sl} {b:Sl} {w:TW} {X:Nat→Prop} {K:KT [.one .slice]} (h:Sh.mul_Engine_block e0 a b (Rt X [.one .slice] K w) w.here):Ct Pg F.mul_Engine_block [.pointer e0,a.v,b.v] w X [.one .slice] K:=
 cod (Sh.mul_Engine_block e0 a b) 50 [] [] [] f159 h
def Sh.mul_New (t:HL I11) (R:Value→TW→Prop) (w:TW):Prop:=
nwv w fun w1=>
cl Pg F.toom_New [.agg (encs I11 t).toArray] w1 [.one .ptr] fun (p:Option Addr) w2=>
nwb w2 [.pointer p] T.mul_Engine fun b w3=>
R (.pointer (some ⟨b,0,none⟩)) w3
theorem Ct.mul_New {t:HL I11} {w:TW} {X:Nat→Prop} {K:KT [.one .ptr]} (h:Sh.mul_New t (Rt X [.one .ptr] K w) w.here):Ct Pg F.mul_New [.agg (encs I11 t).toArray] w X [.one .ptr] K:=
 cod (Sh.mul_New t) 7 [(1,7)] [(7,11)] [] f240 h
end Go.Proofs.YtjhfalgmgagdhaaGreatDoor.Zg
end

section
set_option maxRecDepth 100000
namespace Go.Proofs.YtjhfalgmgagdhaaGreatDoor.Zg
open Go.Proofs.Tryz
def Sh.ntt_Plan_Conv (t:Option Addr) (a:Sl) (b:Sl) (R:Value→TW→Prop) (w:TW):Prop:=
Jn [.bool] (fun J0=>
cond (((a.n:Int):Int) == 0) (
J0 true w) (
cond (((b.n:Int):Int) == 0) (
J0 true w) (
cl Pg F.ntt_Plan_Size [.pointer t] w [.one (.int .i64)] fun (r:Int) w1=>
cond (decide (((a.n:Int):Int)>r)) (
J0 true w1) (
cl Pg F.ntt_Plan_Size [.pointer t] w1 [.one (.int .i64)] fun (r1:Int) w2=>
bnd (wi (r1+1)) fun n=>
bnd (wi (n-(a.n:Int))) fun n1=>
J0 (decide (((b.n:Int):Int)>n1)) w2)))) fun (x:Bool) w3=>
cond x (
R (.tuple #[.slice none 0 0,.bool false]) w3) (
cl Pg F.ntt_Plan_cyclic [.pointer t,a.v,b.v] w3 [.one .slice] fun (s:Sl) w4=>
bnd (wi ((a.n:Int)+(b.n:Int))) fun n2=>
bnd (wi (n2-1)) fun n3=>
slc s 0 n3 1 fun s1=>
R (.tuple #[s1.v,.bool true]) w4)
theorem Ct.ntt_Plan_Conv {t:Option Addr} {a:Sl} {b:Sl} {w:TW} {X:Nat→Prop} {K:KT [.one .slice,.one .bool]} (h:Sh.ntt_Plan_Conv t a b (Rt X [.one .slice,.one .bool] K w) w.here):Ct Pg F.ntt_Plan_Conv [.pointer t,a.v,b.v] w X [.one .slice,.one .bool] K:=
 cod (Sh.ntt_Plan_Conv t a b) 45 [] [] [(0,1,[(33,.one .bool)])] f204 h
def Sh.ntt_New (m:Option Addr) (p:Int) (log:Int) (R:Value→TW→Prop) (w:TW):Prop:=
cl Pg F.prime_Root [.int .u64 p,.int .i64 log] w [.one (.int .u64),.one (.int .i64)] fun (r:Int) (r1:Int) w1=>
cond ((r1:Int) != 0) (
R (.tuple #[.pointer none,.int .i64 r1]) w1) (
cl Pg F.modw_New [.int .u64 p] w1 [.one .ptr,.one (.int .i64)] fun (p1:Option Addr) (r2:Int) w2=>
cond ((r2:Int) != 0) (
R (.tuple #[.pointer none,.int .i64 r2]) w2) (
nwb w2 [.pointer p1,.pointer m,.int .i64 log,.slice none 0 0,.slice none 0 0,.slice none 0 0,.slice none 0 0,.int .u64 0] T.ntt_Plan fun b w3=>
bnd (wu (log)) fun n=>
shlK .u64 1 n fun n1=>
cl Pg F.modw_Mod_Inv [.pointer p1,.int .u64 n1] w3 [.one (.int .u64),.one .bool] fun (r3:Int) (_:Bool) w4=>
stc w4 (Addr.add ⟨b,0,none⟩ 7) (.int .u64 r3) fun w5=>
cl Pg F.modw_Mod_Inv [.pointer p1,.int .u64 r] w5 [.one (.int .u64),.one .bool] fun (r4:Int) (_:Bool) w6=>
divK .u64 n1 2 fun n2=>
bnd (wi (n2)) fun n3=>
cl Pg F.ntt_powers [.pointer p1,.int .u64 r,.int .i64 n3] w6 [.one .slice,.one .slice] fun (s:Sl) (s1:Sl) w7=>
stc w7 (Addr.add ⟨b,0,none⟩ 3) s.v fun w8=>
stc w8 (Addr.add ⟨b,0,none⟩ 5) s1.v fun w9=>
divK .u64 n1 2 fun n4=>
bnd (wi (n4)) fun n5=>
cl Pg F.ntt_powers [.pointer p1,.int .u64 r4,.int .i64 n5] w9 [.one .slice,.one .slice] fun (s2:Sl) (s3:Sl) w10=>
stc w10 (Addr.add ⟨b,0,none⟩ 4) s2.v fun w11=>
stc w11 (Addr.add ⟨b,0,none⟩ 6) s3.v fun w12=>
R (.tuple #[.pointer (some ⟨b,0,none⟩),.int .i64 0]) w12))
theorem Ct.ntt_New {m:Option Addr} {p:Int} {log:Int} {w:TW} {X:Nat→Prop} {K:KT [.one .ptr,.one (.int .i64)]} (h:Sh.ntt_New m p log (Rt X [.one .ptr,.one (.int .i64)] K w) w.here):Ct Pg F.ntt_New [.pointer m,.int .u64 p,.int .i64 log] w X [.one .ptr,.one (.int .i64)] K:=
 cod (Sh.ntt_New m p log) 86 [] [] [] f218 h
def Sh.ntt_Plan_Size (t:Option Addr) (R:Value→TW→Prop) (w:TW):Prop:=
nck t fun a=>
ldc (.int .i64) w (a.add 2) fun (v:Int)=>
bnd (wu (v)) fun n=>
shlK .i64 1 n fun n1=>
R (.int .i64 n1) w
theorem Ct.ntt_Plan_Size {t:Option Addr} {w:TW} {X:Nat→Prop} {K:KT [.one (.int .i64)]} (h:Sh.ntt_Plan_Size t (Rt X [.one (.int .i64)] K w) w.here):Ct Pg F.ntt_Plan_Size [.pointer t] w X [.one (.int .i64)] K:=
 cod (Sh.ntt_Plan_Size t) 9 [] [] [] f221 h
def Sh.ntt_Plan_cyclic (t:Option Addr) (a:Sl) (b:Sl) (R:Value→TW→Prop) (w:TW):Prop:=
cl Pg F.ntt_Plan_forward [.pointer t,a.v] w [.one .slice] fun (s:Sl) w1=>
cl Pg F.ntt_Plan_forward [.pointer t,b.v] w1 [.one .slice] fun (s1:Sl) w2=>
Jn [] (fun J0=>
Lp [.int .i64] (fun (x:Int) w3 C0=>
cond (decide ((x:Int)<(s.n:Int))) (
nck t fun a1=>
ldc (.ptr) w3.drew a1 fun (v:Option Addr)=>
ixa s x 1 fun a2=>
ldc (.int .u64) w3.drew a2 fun (v1:Int)=>
ixa s1 x 1 fun a3=>
ldc (.int .u64) w3.drew a3 fun (v2:Int)=>
cl Pg F.modw_Mod_Mul [.pointer v,.int .u64 v1,.int .u64 v2] w3.drew [.one (.int .u64)] fun (r:Int) w4=>
ixa s x 1 fun a4=>
stc w4 a4 (.int .u64 r) fun w5=>
bnd (wi (x+1)) fun n=>
C0 n w5) (
J0 w3)) 0 w2) fun  w6=>
nck t fun a5=>
ldc (.ptr) w6 (a5.add 1) fun (v3:Option Addr)=>
cl Pg F.meter_Meter_Spend [.pointer v3,.int .i64 (s.n:Int)] w6 [.one (.int .i64)] fun (_:Int) w7=>
cl Pg F.ntt_Plan_inverse [.pointer t,s.v] w7 [.one .slice] fun (s2:Sl) w8=>
R (s2.v) w8
theorem Ct.ntt_Plan_cyclic {t:Option Addr} {a:Sl} {b:Sl} {w:TW} {X:Nat→Prop} {K:KT [.one .slice]} (h:Sh.ntt_Plan_cyclic t a b (Rt X [.one .slice] K w) w.here):Ct Pg F.ntt_Plan_cyclic [.pointer t,a.v,b.v] w X [.one .slice] K:=
 cod (Sh.ntt_Plan_cyclic t a b) 48 [] [] [(2,0,[]),(3,3,[(18,.one (.int .i64))])] f222 h
def Sh.ntt_powers (m:Option Addr) (y:Int) (n:Int) (R:Value→TW→Prop) (w:TW):Prop:=
Jn [.slice,.slice] (fun J0=>
(mks w.drew n n T.uint64 8 [.int .u64 0] fun s w1=>
mks w1 n n T.uint64 8 [.int .u64 0] fun s1 w2=>
J0 s s1 w2)∧
(mks w.drew n n T.uint64 8 [.int .u64 0] fun s2 w3=>
mks w3 n n T.uint64 8 [.int .u64 0] fun s3 w4=>
J0 s3 s2 w4)) fun (l:Sl) (s4:Sl) w5=>
Jn [] (fun J1=>
Lp [.int .u64,.int .i64] (fun (x:Int) (x1:Int) w6 C0=>
cond (decide ((x1:Int)<(l.n:Int))) (
ixa l x1 1 fun a=>
stc w6 a (.int .u64 x) fun w7=>
cl Pg F.modw_Mod_Shoup [.pointer m,.int .u64 x] w7 [.one (.int .u64)] fun (r:Int) w8=>
ixa s4 x1 1 fun a1=>
stc w8 a1 (.int .u64 r) fun w9=>
cl Pg F.modw_Mod_Mul [.pointer m,.int .u64 x,.int .u64 y] w9 [.one (.int .u64)] fun (r1:Int) w10=>
bnd (wi (x1+1)) fun n1=>
C0 r1 n1 w10) (
J1 w6)) 1 0 w5) fun  w11=>
R (.tuple #[l.v,s4.v]) w11
theorem Ct.ntt_powers {m:Option Addr} {y:Int} {n:Int} {w:TW} {X:Nat→Prop} {K:KT [.one .slice,.one .slice]} (h:Sh.ntt_powers m y n (Rt X [.one .slice,.one .slice] K w) w.here):Ct Pg F.ntt_powers [.pointer m,.int .u64 y,.int .i64 n] w X [.one .slice,.one .slice] K:=
 cod (Sh.ntt_powers m y n) 38 [] [] [(0,1,[(8,.one .slice),(9,.one .slice)]),(2,0,[]),(3,4,[(10,.one (.int .u64)),(18,.one (.int .i64))])] f227 h
def Sh.ntt_Plan_forward (t:Option Addr) (a:Sl) (R:Value→TW→Prop) (w:TW):Prop:=
cl Pg F.ntt_Plan_turned [.pointer t,a.v] w [.one .slice] fun (s:Sl) w1=>
nck t fun a1=>
ldc (.slice) w1.drew (a1.add 3) fun (v:Sl)=>
nck t fun a2=>
ldc (.slice) w1.drew (a2.add 5) fun (v1:Sl)=>
cl Pg F.ntt_Plan_transform [.pointer t,s.v,v.v,v1.v] w1.drew [] fun w2=>
R (s.v) w2
theorem Ct.ntt_Plan_forward {t:Option Addr} {a:Sl} {w:TW} {X:Nat→Prop} {K:KT [.one .slice]} (h:Sh.ntt_Plan_forward t a (Rt X [.one .slice] K w) w.here):Ct Pg F.ntt_Plan_forward [.pointer t,a.v] w X [.one .slice] K:=
 cod (Sh.ntt_Plan_forward t a) 21 [] [] [] f228 h
def Sh.ntt_Plan_inverse (t:Option Addr) (a:Sl) (R:Value→TW→Prop) (w:TW):Prop:=
cl Pg F.ntt_Plan_turned [.pointer t,a.v] w [.one .slice] fun (s:Sl) w1=>
nck t fun a1=>
ldc (.slice) w1.drew (a1.add 4) fun (v:Sl)=>
nck t fun a2=>
ldc (.slice) w1.drew (a2.add 6) fun (v1:Sl)=>
cl Pg F.ntt_Plan_transform [.pointer t,s.v,v.v,v1.v] w1.drew [] fun w2=>
Jn [] (fun J0=>
Lp [.int .i64] (fun (x:Int) w3 C0=>
cond (decide ((x:Int)<(s.n:Int))) (
ixa s x 1 fun a3=>
ldc (.int .u64) w3 a3 fun (v2:Int)=>
nck t fun a4=>
ldc (.ptr) w3.drew a4 fun (v3:Option Addr)=>
nck t fun a5=>
ldc (.int .u64) w3.drew (a5.add 7) fun (v4:Int)=>
cl Pg F.modw_Mod_Mul [.pointer v3,.int .u64 v2,.int .u64 v4] w3.drew [.one (.int .u64)] fun (r:Int) w4=>
ixa s x 1 fun a6=>
stc w4 a6 (.int .u64 r) fun w5=>
bnd (wi (x+1)) fun n=>
C0 n w5) (
J0 w3)) 0 w2) fun  w6=>
nck t fun a7=>
ldc (.ptr) w6 (a7.add 1) fun (v5:Option Addr)=>
cl Pg F.meter_Meter_Spend [.pointer v5,.int .i64 (s.n:Int)] w6 [.one (.int .i64)] fun (_:Int) w7=>
R (s.v) w7
theorem Ct.ntt_Plan_inverse {t:Option Addr} {a:Sl} {w:TW} {X:Nat→Prop} {K:KT [.one .slice]} (h:Sh.ntt_Plan_inverse t a (Rt X [.one .slice] K w) w.here):Ct Pg F.ntt_Plan_inverse [.pointer t,a.v] w X [.one .slice] K:=
 cod (Sh.ntt_Plan_inverse t a) 51 [] [] [(2,0,[]),(3,4,[(24,.one (.int .i64))])] f229 h
def Sh.ntt_Plan_turned (t:Option Addr) (a:Sl) (R:Value→TW→Prop) (w:TW):Prop:=
cl Pg F.ntt_Plan_Size [.pointer t] w [.one (.int .i64)] fun (r:Int) w1=>
mks w1 r r T.uint64 8 [.int .u64 0] fun s w2=>
Jn [] (fun J0=>
Lp [.int .i64] (fun (x:Int) w3 C0=>
cond (decide ((x:Int)<(a.n:Int))) (
ixa a x 1 fun a1=>
ldc (.int .u64) w3 a1 fun (v:Int)=>
bnd (wu (x)) fun n=>
nck t fun a2=>
ldc (.int .i64) w3.drew (a2.add 2) fun (v1:Int)=>
bnd (wi (64-v1)) fun n1=>
bnd (wu (n1)) fun n2=>
nck t fun a3=>
ldc (.ptr) w3.drew a3 fun (v2:Option Addr)=>
cl Pg F.bits_Reverse64 [.int .u64 n] w3.drew [.one (.int .u64)] fun (r1:Int) w4=>
hld w4 [(a3,.pointer v2),((a2.add 2),.int .i64 v1)] <|
shrK .u64 r1 n2 fun n3=>
cl Pg F.modw_Mod_Red [.pointer v2,.int .u64 v] w4 [.one (.int .u64)] fun (r2:Int) w5=>
hld w5 [((a2.add 2),.int .i64 v1)] <|
ixa s n3 1 fun a4=>
stc w5 a4 (.int .u64 r2) fun w6=>
bnd (wi (x+1)) fun n4=>
C0 n4 w6) (
J0 w3)) 0 w2) fun  w7=>
R (s.v) w7
theorem Ct.ntt_Plan_turned {t:Option Addr} {a:Sl} {w:TW} {X:Nat→Prop} {K:KT [.one .slice]} (h:Sh.ntt_Plan_turned t a (Rt X [.one .slice] K w) w.here):Ct Pg F.ntt_Plan_turned [.pointer t,a.v] w X [.one .slice] K:=
 cod (Sh.ntt_Plan_turned t a) 38 [] [] [(2,0,[]),(3,3,[(13,.one (.int .i64))])] f233 h
def Sh.ntt_Plan_transform (t:Option Addr) (a:Sl) (l:Sl) (s:Sl) (R:Value→TW→Prop) (w:TW):Prop:=
nck t fun a1=>
ldc (.ptr) w a1 fun (v:Option Addr)=>
cl Pg F.modw_Mod_P [.pointer v] w [.one (.int .u64)] fun (r:Int) w1=>
Jn [] (fun J0=>
Lp [.int .i64] (fun (half:Int) w2 C0=>
cond (decide ((half:Int)<(a.n:Int))) (
bnd (wi (2*half)) fun n=>
divK .i64 (a.n:Int) n fun n1=>
Jn [] (fun J1=>
Lp [.int .i64] (fun (from0:Int) w3 C1=>
cond (decide ((from0:Int)<(a.n:Int))) (
Jn [] (fun J2=>
Lp [.int .i64] (fun (j:Int) w4 C2=>
cond (decide ((j:Int)<half)) (
bnd (wi (from0+j)) fun n2=>
ixa a n2 1 fun a2=>
ldc (.int .u64) w4 a2 fun (v1:Int)=>
nck t fun a3=>
ldc (.ptr) w4.drew a3 fun (v2:Option Addr)=>
bnd (wi (from0+half)) fun n3=>
bnd (wi (n3+j)) fun n4=>
ixa a n4 1 fun a4=>
ldc (.int .u64) w4.drew a4 fun (v3:Int)=>
bnd (wi (j*n1)) fun n5=>
ixa l n5 1 fun a5=>
ldc (.int .u64) w4.drew a5 fun (v4:Int)=>
bnd (wi (j*n1)) fun n6=>
ixa s n6 1 fun a6=>
ldc (.int .u64) w4.drew a6 fun (v5:Int)=>
cl Pg F.modw_Mod_ShoupMul [.pointer v2,.int .u64 v3,.int .u64 v4,.int .u64 v5] w4.drew [.one (.int .u64)] fun (r1:Int) w5=>
bnd (wu (v1+r1)) fun n7=>
Jn [.int .u64] (fun J3=>
cond (decide ((n7:Int)≥r)) (
bnd (wu (n7-r)) fun n8=>
J3 n8 w5) (
J3 n7 w5)) fun (sum:Int) w6=>
bnd (wi (from0+j)) fun n9=>
ixa a n9 1 fun a7=>
stc w6 a7 (.int .u64 sum) fun w7=>
Jn [.int .u64] (fun J4=>
cond (decide ((v1:Int)<r1)) (
bnd (wu (v1+r)) fun n10=>
J4 n10 w7) (
J4 v1 w7)) fun (x:Int) w8=>
bnd (wi (from0+half)) fun n11=>
bnd (wi (n11+j)) fun n12=>
bnd (wu (x-r1)) fun n13=>
ixa a n12 1 fun a8=>
stc w8 a8 (.int .u64 n13) fun w9=>
bnd (wi (j+1)) fun n14=>
C2 n14 w9) (
J2 w4)) 0 w3) fun  w10=>
bnd (wi (2*half)) fun n15=>
bnd (wi (from0+n15)) fun n16=>
C1 n16 w10) (
J1 w3)) 0 w2) fun  w11=>
bnd (wi (2*half)) fun n17=>
C0 n17 w11) (
J0 w2)) 1 w1) fun  w12=>
nck t fun a9=>
ldc (.ptr) w12.drew (a9.add 1) fun (v6:Option Addr)=>
divK .i64 (a.n:Int) 2 fun n18=>
nck t fun a10=>
ldc (.int .i64) w12.drew (a10.add 2) fun (v7:Int)=>
bnd (wi (n18*v7)) fun n19=>
cl Pg F.meter_Meter_Spend [.pointer v6,.int .i64 n19] w12.drew [.one (.int .i64)] fun (_:Int) w13=>
hld w13 [((a10.add 2),.int .i64 v7)] <|
R (.tuple #[]) w13
theorem Ct.ntt_Plan_transform {t:Option Addr} {a:Sl} {l:Sl} {s:Sl} {w:TW} {X:Nat→Prop} {K:KT []} (h:Sh.ntt_Plan_transform t a l s (Rt X [] K w) w.here):Ct Pg F.ntt_Plan_transform [.pointer t,a.v,l.v,s.v] w X [] K:=
 cod (Sh.ntt_Plan_transform t a l s) 120 [] [] [(2,0,[]),(3,2,[(9,.one (.int .i64))]),(2,2,[]),(3,6,[(11,.one (.int .i64))]),(2,4,[]),(3,9,[(12,.one (.int .i64))]),(1,15,[(15,.one (.int .u64))]),(1,18,[(13,.one (.int .u64))])] f234 h
end Go.Proofs.YtjhfalgmgagdhaaGreatDoor.Zg
end

section
set_option maxRecDepth 100000
namespace Go.Proofs.YtjhfalgmgagdhaaGreatDoor.Zg
open Go.Proofs.Tryz
def Sh.num_Of (n:Int) (R:Value→TW→Prop) (w:TW):Prop:=
nwv w fun w1=>
cond (decide ((n:Int)<0)) (
bnd (wu (n)) fun n1=>
bnd (wu (0-n1)) fun n2=>
cl Pg F.limb_One [.int .u64 n2] w1 [.one .slice] fun (s:Sl) w2=>
cl Pg F.num_made [s.v,.bool true] w2 [.agg [.slice,.bool]] fun (r:Sl) (r1:Bool) w3=>
nwv w3 fun w4=>
R (.agg #[r.v,.bool r1]) w4) (
bnd (wu (n)) fun n3=>
cl Pg F.limb_One [.int .u64 n3] w1 [.one .slice] fun (s1:Sl) w5=>
cl Pg F.num_made [s1.v,.bool false] w5 [.agg [.slice,.bool]] fun (r2:Sl) (r3:Bool) w6=>
nwv w6 fun w7=>
R (.agg #[r2.v,.bool r3]) w7)
theorem Ct.num_Of {n:Int} {w:TW} {X:Nat→Prop} {K:KT [.agg [.slice,.bool]]} (h:Sh.num_Of n (Rt X [.agg [.slice,.bool]] K w) w.here):Ct Pg F.num_Of [.int .i64 n] w X [.agg [.slice,.bool]] K:=
 cod (Sh.num_Of n) 14 [(2,14)] [(14,2)] [] f30 h
def Sh.num_Engine_Times (e0:Option Addr) (a0:Sl) (a1:Bool) (b0:Sl) (b1:Bool) (R:Value→TW→Prop) (w:TW):Prop:=
nwv w fun w1=>
nwv w1 fun w2=>
nwv w2 fun w3=>
nck e0 fun a2=>
ldc (.ptr) w3.drew a2 fun (v:Option Addr)=>
nck v fun a3=>
ldc (.ptr) w3.drew a3 fun (v1:Option Addr)=>
nck v1 fun a4=>
ldc (.ptr) w3.drew a4 fun (v2:Option Addr)=>
nck v2 fun a5=>
ldc (.ptr) w3.drew a5 fun (v3:Option Addr)=>
nck v3 fun a6=>
ldc (.ptr) w3.drew a6 fun (v4:Option Addr)=>
nck v4 fun a7=>
ldc (.ptr) w3.drew a7 fun (v5:Option Addr)=>
cl Pg F.mul_Engine_Mul [.pointer v5,a0.v,b0.v] w3.drew [.one .slice] fun (s:Sl) w4=>
hld w4 [(a6,.pointer v4),(a5,.pointer v3),(a4,.pointer v2),(a3,.pointer v1),(a2,.pointer v)] <|
cl Pg F.num_made [s.v,.bool (!(a1 == b1))] w4 [.agg [.slice,.bool]] fun (r:Sl) (r1:Bool) w5=>
hld w5 [(a6,.pointer v4),(a5,.pointer v3),(a4,.pointer v2),(a3,.pointer v1),(a2,.pointer v)] <|
nwv w5 fun w6=>
R (.agg #[r.v,.bool r1]) w6
theorem Ct.num_Engine_Times {e0:Option Addr} {a0:Sl} {a1:Bool} {b0:Sl} {b1:Bool} {w:TW} {X:Nat→Prop} {K:KT [.agg [.slice,.bool]]} (h:Sh.num_Engine_Times e0 a0 a1 b0 b1 (Rt X [.agg [.slice,.bool]] K w) w.here):Ct Pg F.num_Engine_Times [.pointer e0,.agg #[a0.v,.bool a1],.agg #[b0.v,.bool b1]] w X [.agg [.slice,.bool]] K:=
 cod (Sh.num_Engine_Times e0 a0 a1 b0 b1) 37 [(4,37),(5,39),(6,41)] [(37,2),(39,2),(41,2)] [] f32 h
def Sh.num_Norm (a0:Sl) (a1:Bool) (R:Value→TW→Prop) (w:TW):Prop:=
nwv w fun w1=>
nwv w1 fun w2=>
cl Pg F.limb_Norm [a0.v] w2.drew [.one .slice] fun (s:Sl) w3=>
cl Pg F.num_made [s.v,.bool a1] w3 [.agg [.slice,.bool]] fun (r:Sl) (r1:Bool) w4=>
nwv w4 fun w5=>
R (.agg #[r.v,.bool r1]) w5
theorem Ct.num_Norm {a0:Sl} {a1:Bool} {w:TW} {X:Nat→Prop} {K:KT [.agg [.slice,.bool]]} (h:Sh.num_Norm a0 a1 (Rt X [.agg [.slice,.bool]] K w) w.here):Ct Pg F.num_Norm [.agg #[a0.v,.bool a1]] w X [.agg [.slice,.bool]] K:=
 cod (Sh.num_Norm a0 a1) 9 [(1,9),(2,11)] [(9,2),(11,2)] [] f61 h
def Sh.num_Add (a0:Sl) (a1:Bool) (b0:Sl) (b1:Bool) (R:Value→TW→Prop) (w:TW):Prop:=
nwv w fun w1=>
nwv w1 fun w2=>
nwv w2 fun w3=>
cond (a1 == b1) (
cl Pg F.limb_Add [a0.v,b0.v] w3.drew [.one .slice] fun (s:Sl) w4=>
cl Pg F.num_made [s.v,.bool a1] w4 [.agg [.slice,.bool]] fun (r:Sl) (r1:Bool) w5=>
nwv w5 fun w6=>
R (.agg #[r.v,.bool r1]) w6) (
cl Pg F.limb_Sub [a0.v,b0.v] w3 [.one .slice,.one .bool] fun (s1:Sl) (ok:Bool) w7=>
cond ok (
cl Pg F.num_made [s1.v,.bool a1] w7 [.agg [.slice,.bool]] fun (r2:Sl) (r3:Bool) w8=>
nwv w8 fun w9=>
R (.agg #[r2.v,.bool r3]) w9) (
cl Pg F.limb_Sub [b0.v,a0.v] w7 [.one .slice,.one .bool] fun (s2:Sl) (_:Bool) w10=>
cl Pg F.num_made [s2.v,.bool b1] w10 [.agg [.slice,.bool]] fun (r4:Sl) (r5:Bool) w11=>
nwv w11 fun w12=>
R (.agg #[r4.v,.bool r5]) w12))
theorem Ct.num_Add {a0:Sl} {a1:Bool} {b0:Sl} {b1:Bool} {w:TW} {X:Nat→Prop} {K:KT [.agg [.slice,.bool]]} (h:Sh.num_Add a0 a1 b0 b1 (Rt X [.agg [.slice,.bool]] K w) w.here):Ct Pg F.num_Add [.agg #[a0.v,.bool a1],.agg #[b0.v,.bool b1]] w X [.agg [.slice,.bool]] K:=
 cod (Sh.num_Add a0 a1 b0 b1) 47 [(2,47),(3,49),(4,51)] [(47,2),(49,2),(51,2)] [] f68 h
def Sh.num_made (size:Sl) (neg:Bool) (R:Value→TW→Prop) (w:TW):Prop:=
nwv w fun w1=>
Jn [.slice,.bool] (fun J0=>
cond neg (
cl Pg F.api_Nat_Zero [size.v] w1 [.one .bool] fun (ok:Bool) w2=>
nwv w2 fun w3=>
J0 size (!ok) w3) (
nwv w1 fun w4=>
J0 size false w4)) fun (x:Sl) (x1:Bool) w5=>
R (.agg #[x.v,.bool x1]) w5
theorem Ct.num_made {size:Sl} {neg:Bool} {w:TW} {X:Nat→Prop} {K:KT [.agg [.slice,.bool]]} (h:Sh.num_made size neg (Rt X [.agg [.slice,.bool]] K w) w.here):Ct Pg F.num_made [size.v,.bool neg] w X [.agg [.slice,.bool]] K:=
 cod (Sh.num_made size neg) 13 [(4,13)] [(13,2)] [(0,1,[(13,.one .slice),(14,.one .bool)])] f76 h
def Sh.num_New (t:HL I11) (R:Value→TW→Prop) (w:TW):Prop:=
nwv w fun w1=>
cl Pg F.radix_New [.agg (encs I11 t).toArray] w1 [.one .ptr] fun (p:Option Addr) w2=>
nwb w2 [.pointer p] T.num_Engine fun b w3=>
R (.pointer (some ⟨b,0,none⟩)) w3
theorem Ct.num_New {t:HL I11} {w:TW} {X:Nat→Prop} {K:KT [.one .ptr]} (h:Sh.num_New t (Rt X [.one .ptr] K w) w.here):Ct Pg F.num_New [.agg (encs I11 t).toArray] w X [.one .ptr] K:=
 cod (Sh.num_New t) 7 [(1,7)] [(7,11)] [] f144 h
end Go.Proofs.YtjhfalgmgagdhaaGreatDoor.Zg
end
