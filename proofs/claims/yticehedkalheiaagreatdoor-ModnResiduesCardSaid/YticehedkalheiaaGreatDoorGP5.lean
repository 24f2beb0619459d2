/- A part of the proofs of this seat's laws: words, lemmas or contracts of its functions. -/
import Derived.Test.YticehedkalheiaaGreatDoorGC
set_option linter.unusedVariables false
set_option linter.unusedSimpArgs false
set_option linter.unnecessarySimpa false
section
set_option maxRecDepth 100000
namespace Go.Proofs.YticehedkalheiaaGreatDoor.Zg
def Sh.zigguratref02_Same (a : Sl) (b : Sl) (R : Value → TW → Prop) (w : TW) : Prop :=
cl Pg F.zigguratref02_To [a.v] w [.one .slice] fun (s : Sl) w1 =>
cond (((s.n : Int) : Int) != (b.n : Int)) (
R (.bool false) w1) (
Jn [] (fun J0 =>
Lp [.int .i64] (fun (i : Int) w2 C0 =>
cond (decide ((i : Int) < (s.n : Int))) (
ixa s i 1 fun a1 =>
ldc (.int .u64) w2.drew a1 fun (v : Int) =>
ixa b i 1 fun a2 =>
ldc (.int .u64) w2.drew a2 fun (v1 : Int) =>
cond ((v : Int) != v1) (
R (.bool false) w2.drew) (
bnd (wi (i + 1)) fun n =>
C0 n w2.drew)) (
J0 w2)) 0 w1) fun  w3 =>
R (.bool true) w3)
theorem Ct.zigguratref02_Same {a : Sl} {b : Sl} {w : TW} {X : Nat → Prop} {K : Tel (fl [.one .bool]) (TW → Prop)} (h : Sh.zigguratref02_Same a b (Rt X [.one .bool] K w) w.here) : Ct Pg F.zigguratref02_Same [a.v, b.v] w X [.one .bool] K :=
 cod (Sh.zigguratref02_Same a b) 29 [] [] [(2, 0, []), (3, 5, [(6, .one (.int .i64))])] Go.Proofs.Tryz.f28 (by kernel_rfl) (by kernel_rfl) (by kernel_rfl) (fun _ _ => by kernel_rfl) h
def Sh.zigguratref02_Small (y : Int) (R : Value → TW → Prop) (w : TW) : Prop :=
nwb w [.int .u64 y] T.uint64 fun b w1 =>
cl Pg F.zigguratref02_From [.slice (some ⟨b, 0, none⟩) 1 1] w1 [.one .slice] fun (s : Sl) w2 =>
R (s.v) w2
theorem Ct.zigguratref02_Small {y : Int} {w : TW} {X : Nat → Prop} {K : Tel (fl [.one .slice]) (TW → Prop)} (h : Sh.zigguratref02_Small y (Rt X [.one .slice] K w) w.here) : Ct Pg F.zigguratref02_Small [.int .u64 y] w X [.one .slice] K :=
 cod (Sh.zigguratref02_Small y) 6 [] [] [] Go.Proofs.Tryz.f54 (by kernel_rfl) (by kernel_rfl) (by kernel_rfl) (fun _ _ => by kernel_rfl) h
def Sh.zigguratref02_Add (a : Sl) (b : Sl) (R : Value → TW → Prop) (w : TW) : Prop :=
bnd (if ((b.n : Int) : Int) > (a.n : Int) then (b.n : Int) else (a.n : Int)) fun n =>
bnd (wi (n + 1)) fun n1 =>
mks w 0 n1 T.uint64 8 [.int .u64 0] fun s w1 =>
Jn [.slice] (fun J0 =>
Lp [.slice, .int .u64, .int .i64] (fun (out : Sl) (c : Int) (i : Int) w2 C0 =>
Jn [.bool] (fun J1 =>
cond (decide ((i : Int) < (a.n : Int))) (
J1 true w2) (
cond (decide ((i : Int) < (b.n : Int))) (
J1 true w2) (
J1 (decide ((c : Int) > 0)) w2))) fun (x : Bool) w3 =>
cond x (
Jn [.int .u64] (fun J2 =>
cond (decide ((i : Int) < (a.n : Int))) (
ixa a i 1 fun a1 =>
ldc (.int .u64) w3 a1 fun (v : Int) =>
bnd (wu (c + v)) fun n2 =>
J2 n2 w3) (
J2 c w3)) fun (c1 : Int) w4 =>
Jn [.int .u64] (fun J3 =>
cond (decide ((i : Int) < (b.n : Int))) (
ixa b i 1 fun a2 =>
ldc (.int .u64) w4 a2 fun (v1 : Int) =>
bnd (wu (c1 + v1)) fun n3 =>
J3 n3 w4) (
J3 c1 w4)) fun (c2 : Int) w5 =>
remK c2 4294967296 fun n4 =>
nwb w5 [.int .u64 n4] T.uint64 fun b1 w6 =>
apd w6 T.uint64 1 8 out ⟨(some ⟨b1, 0, none⟩), 1, 1⟩ fun s1 w7 =>
divK .u64 c2 4294967296 fun n5 =>
bnd (wi (i + 1)) fun n6 =>
C0 s1 n5 n6 w7) (
J0 out w3)) s 0 0 w1) fun (out1 : Sl) w8 =>
cl Pg F.zigguratref02_norm [out1.v] w8 [.one .slice] fun (s2 : Sl) w9 =>
R (s2.v) w9
theorem Ct.zigguratref02_Add {a : Sl} {b : Sl} {w : TW} {X : Nat → Prop} {K : Tel (fl [.one .slice]) (TW → Prop)} (h : Sh.zigguratref02_Add a b (Rt X [.one .slice] K w) w.here) : Ct Pg F.zigguratref02_Add [a.v, b.v] w X [.one .slice] K :=
 cod (Sh.zigguratref02_Add a b) 60 [] [] [(2, 0, [(5, .one .slice)]), (3, 4, [(5, .one .slice), (6, .one (.int .u64)), (7, .one (.int .i64))]), (0, 4, [(28, .one .bool)]), (1, 7, [(6, .one (.int .u64))]), (1, 9, [(6, .one (.int .u64))])] Go.Proofs.Tryz.f55 (by kernel_rfl) (by kernel_rfl) (by kernel_rfl) (fun _ _ => by kernel_rfl) h
def Sh.zigguratref02_To (a : Sl) (R : Value → TW → Prop) (w : TW) : Prop :=
Jn [.slice] (fun J0 =>
Lp [.slice, .int .i64] (fun (out : Sl) (i : Int) w1 C0 =>
cond (decide ((i : Int) < (a.n : Int))) (
ixa a i 1 fun a1 =>
ldc (.int .u64) w1 a1 fun (v : Int) =>
bnd (wi (i + 1)) fun n =>
Jn [.int .u64] (fun J1 =>
cond (decide ((n : Int) < (a.n : Int))) (
bnd (wi (i + 1)) fun n1 =>
ixa a n1 1 fun a2 =>
ldc (.int .u64) w1 a2 fun (v1 : Int) =>
bnd (wu (v1 * 4294967296)) fun n2 =>
bnd (wu (v + n2)) fun n3 =>
J1 n3 w1) (
J1 v w1)) fun (y : Int) w2 =>
nwb w2 [.int .u64 y] T.uint64 fun b w3 =>
apd w3 T.uint64 1 8 out ⟨(some ⟨b, 0, none⟩), 1, 1⟩ fun s w4 =>
bnd (wi (i + 2)) fun n4 =>
C0 s n4 w4) (
J0 out w1)) Sl.nil 0 w) fun (out1 : Sl) w5 =>
Jn [.slice] (fun J2 =>
Lp [.slice] (fun (out2 : Sl) w6 C1 =>
Jn [.bool] (fun J3 =>
cond (decide (((out2.n : Int) : Int) > 0)) (
bnd (wi ((out2.n : Int) - 1)) fun n5 =>
ixa out2 n5 1 fun a3 =>
ldc (.int .u64) w6 a3 fun (v2 : Int) =>
J3 ((v2 : Int) == 0) w6) (
J3 false w6)) fun (x : Bool) w7 =>
cond x (
bnd (wi ((out2.n : Int) - 1)) fun n6 =>
slc out2 0 n6 1 fun s1 =>
C1 s1 w7) (
J2 out2 w7)) out1 w5) fun (out3 : Sl) w8 =>
R (out3.v) w8
theorem Ct.zigguratref02_To {a : Sl} {w : TW} {X : Nat → Prop} {K : Tel (fl [.one .slice]) (TW → Prop)} (h : Sh.zigguratref02_To a (Rt X [.one .slice] K w) w.here) : Ct Pg F.zigguratref02_To [a.v] w X [.one .slice] K :=
 cod (Sh.zigguratref02_To a) 51 [] [] [(2, 0, [(3, .one .slice)]), (3, 3, [(3, .one .slice), (4, .one (.int .i64))]), (1, 7, [(5, .one (.int .u64))]), (2, 2, [(3, .one .slice)]), (3, 9, [(3, .one .slice)]), (0, 9, [(44, .one .bool)])] Go.Proofs.Tryz.f56 (by kernel_rfl) (by kernel_rfl) (by kernel_rfl) (fun _ _ => by kernel_rfl) h
def Sh.zigguratref02_Mul (a : Sl) (b : Sl) (R : Value → TW → Prop) (w : TW) : Prop :=
bnd (wi ((a.n : Int) + (b.n : Int))) fun n =>
mks w n n T.uint64 8 [.int .u64 0] fun s w1 =>
Jn [] (fun J0 =>
Lp [.int .i64] (fun (i : Int) w2 C0 =>
cond (decide ((i : Int) < (a.n : Int))) (
Jn [.int .u64] (fun J1 =>
Lp [.int .u64, .int .i64] (fun (c : Int) (j : Int) w3 C1 =>
cond (decide ((j : Int) < (b.n : Int))) (
bnd (wi (i + j)) fun n1 =>
ixa s n1 1 fun a1 =>
ldc (.int .u64) w3.drew a1 fun (v : Int) =>
ixa a i 1 fun a2 =>
ldc (.int .u64) w3.drew a2 fun (v1 : Int) =>
ixa b j 1 fun a3 =>
ldc (.int .u64) w3.drew a3 fun (v2 : Int) =>
bnd (wu (v1 * v2)) fun n2 =>
bnd (wu (v + n2)) fun n3 =>
bnd (wu (n3 + c)) fun n4 =>
bnd (wi (i + j)) fun n5 =>
remK n4 4294967296 fun n6 =>
ixa s n5 1 fun a4 =>
stc w3.drew a4 (.int .u64 n6) fun w4 =>
divK .u64 n4 4294967296 fun n7 =>
bnd (wi (j + 1)) fun n8 =>
C1 n7 n8 w4) (
J1 c w3)) 0 0 w2) fun (c1 : Int) w5 =>
bnd (wi (i + (b.n : Int))) fun n9 =>
ixa s n9 1 fun a5 =>
stc w5 a5 (.int .u64 c1) fun w6 =>
bnd (wi (i + 1)) fun n10 =>
C0 n10 w6) (
J0 w2)) 0 w1) fun  w7 =>
cl Pg F.zigguratref02_norm [s.v] w7 [.one .slice] fun (s1 : Sl) w8 =>
R (s1.v) w8
theorem Ct.zigguratref02_Mul {a : Sl} {b : Sl} {w : TW} {X : Nat → Prop} {K : Tel (fl [.one .slice]) (TW → Prop)} (h : Sh.zigguratref02_Mul a b (Rt X [.one .slice] K w) w.here) : Ct Pg F.zigguratref02_Mul [a.v, b.v] w X [.one .slice] K :=
 cod (Sh.zigguratref02_Mul a b) 64 [] [] [(2, 0, []), (3, 3, [(6, .one (.int .i64))]), (2, 2, [(7, .one (.int .u64))]), (3, 7, [(7, .one (.int .u64)), (8, .one (.int .i64))])] Go.Proofs.Tryz.f57 (by kernel_rfl) (by kernel_rfl) (by kernel_rfl) (fun _ _ => by kernel_rfl) h
def Sh.zigguratref02_Cmp (a : Sl) (b : Sl) (R : Value → TW → Prop) (w : TW) : Prop :=
cond (((a.n : Int) : Int) != (b.n : Int)) (
cond (decide (((a.n : Int) : Int) < (b.n : Int))) (
R (.int .i64 (-1)) w) (
R (.int .i64 1) w)) (
bnd (wi ((a.n : Int) - 1)) fun n =>
Jn [] (fun J0 =>
Lp [.int .i64] (fun (i : Int) w1 C0 =>
cond (decide ((i : Int) ≥ 0)) (
ixa a i 1 fun a1 =>
ldc (.int .u64) w1.drew a1 fun (v : Int) =>
ixa b i 1 fun a2 =>
ldc (.int .u64) w1.drew a2 fun (v1 : Int) =>
cond (decide ((v : Int) < v1)) (
R (.int .i64 (-1)) w1.drew) (
ixa a i 1 fun a3 =>
ldc (.int .u64) w1.drew.drew a3 fun (v2 : Int) =>
ixa b i 1 fun a4 =>
ldc (.int .u64) w1.drew.drew a4 fun (v3 : Int) =>
cond (decide ((v2 : Int) > v3)) (
R (.int .i64 1) w1.drew.drew) (
bnd (wi (i - 1)) fun n1 =>
C0 n1 w1.drew.drew))) (
J0 w1)) n w) fun  w2 =>
R (.int .i64 0) w2)
theorem Ct.zigguratref02_Cmp {a : Sl} {b : Sl} {w : TW} {X : Nat → Prop} {K : Tel (fl [.one (.int .i64)]) (TW → Prop)} (h : Sh.zigguratref02_Cmp a b (Rt X [.one (.int .i64)] K w) w.here) : Ct Pg F.zigguratref02_Cmp [a.v, b.v] w X [.one (.int .i64)] K :=
 cod (Sh.zigguratref02_Cmp a b) 41 [] [] [(2, 0, []), (3, 6, [(5, .one (.int .i64))])] Go.Proofs.Tryz.f84 (by kernel_rfl) (by kernel_rfl) (by kernel_rfl) (fun _ _ => by kernel_rfl) h
def Sh.zigguratref02_Mod (a : Sl) (d : Sl) (R : Value → TW → Prop) (w : TW) : Prop :=
cl Pg F.zigguratref02_DivMod [a.v, d.v] w [.one .slice, .one .slice] fun (_ : Sl) (s1 : Sl) w1 =>
R (s1.v) w1
theorem Ct.zigguratref02_Mod {a : Sl} {d : Sl} {w : TW} {X : Nat → Prop} {K : Tel (fl [.one .slice]) (TW → Prop)} (h : Sh.zigguratref02_Mod a d (Rt X [.one .slice] K w) w.here) : Ct Pg F.zigguratref02_Mod [a.v, d.v] w X [.one .slice] K :=
 cod (Sh.zigguratref02_Mod a d) 14 [] [] [] Go.Proofs.Tryz.f85 (by kernel_rfl) (by kernel_rfl) (by kernel_rfl) (fun _ _ => by kernel_rfl) h
def Sh.zigguratref02_Bits (a : Sl) (R : Value → TW → Prop) (w : TW) : Prop :=
cond (((a.n : Int) : Int) == 0) (
R (.int .i64 0) w) (
bnd (wi ((a.n : Int) - 1)) fun n =>
bnd (wi (32 * n)) fun n1 =>
bnd (wi ((a.n : Int) - 1)) fun n2 =>
ixa a n2 1 fun a1 =>
ldc (.int .u64) w a1 fun (v : Int) =>
Jn [.int .i64] (fun J0 =>
Lp [.int .i64, .int .u64] (fun (n3 : Int) (y : Int) w1 C0 =>
cond (decide ((y : Int) > 0)) (
bnd (wi (n3 + 1)) fun n4 =>
divK .u64 y 2 fun n5 =>
C0 n4 n5 w1) (
J0 n3 w1)) n1 v w) fun (n6 : Int) w2 =>
R (.int .i64 n6) w2)
theorem Ct.zigguratref02_Bits {a : Sl} {w : TW} {X : Nat → Prop} {K : Tel (fl [.one (.int .i64)]) (TW → Prop)} (h : Sh.zigguratref02_Bits a (Rt X [.one (.int .i64)] K w) w.here) : Ct Pg F.zigguratref02_Bits [a.v] w X [.one (.int .i64)] K :=
 cod (Sh.zigguratref02_Bits a) 25 [] [] [(2, 0, [(3, .one (.int .i64))]), (3, 5, [(3, .one (.int .i64)), (4, .one (.int .u64))])] Go.Proofs.Tryz.f97 (by kernel_rfl) (by kernel_rfl) (by kernel_rfl) (fun _ _ => by kernel_rfl) h
def Sh.zigguratref02_DivMod (a : Sl) (d : Sl) (R : Value → TW → Prop) (w : TW) : Prop :=
cl Pg F.zigguratref02_Cmp [a.v, d.v] w [.one (.int .i64)] fun (r : Int) w1 =>
cond (decide ((r : Int) < 0)) (
R (.tuple #[.slice none 0 0, a.v]) w1) (
bnd (wi ((d.n : Int) + 1)) fun n =>
mks w1 n n T.uint64 8 [.int .u64 0] fun s w2 =>
mks w2 (a.n : Int) (a.n : Int) T.uint64 8 [.int .u64 0] fun s1 w3 =>
cl Pg F.zigguratref02_Bits [a.v] w3 [.one (.int .i64)] fun (r1 : Int) w4 =>
bnd (wi (r1 - 1)) fun n1 =>
Jn [] (fun J0 =>
Lp [.int .i64] (fun (i : Int) w5 C0 =>
cond (decide ((i : Int) ≥ 0)) (
cl Pg F.zigguratref02_bit [a.v, .int .i64 i] w5 [.one (.int .u64)] fun (r2 : Int) w6 =>
cl Pg F.zigguratref02_twice [s.v, .int .u64 r2, d.v] w6 [.one .bool] fun (ok : Bool) w7 =>
Jn [] (fun J1 =>
cond ok (
divK .i64 i 32 fun n2 =>
ixa s1 n2 1 fun a1 =>
ldc (.int .u64) w7 a1 fun (v : Int) =>
remK i 32 fun n3 =>
bnd (wu (n3)) fun n4 =>
shlK .u64 1 n4 fun n5 =>
bnd (bits2 .or .u64 v n5) fun n6 =>
ixa s1 n2 1 fun a2 =>
stc w7 a2 (.int .u64 n6) fun w8 =>
J1 w8) (
J1 w7)) fun  w9 =>
bnd (wi (i - 1)) fun n7 =>
C0 n7 w9) (
J0 w5)) n1 w4) fun  w10 =>
cl Pg F.zigguratref02_norm [s1.v] w10 [.one .slice] fun (s2 : Sl) w11 =>
cl Pg F.zigguratref02_norm [s.v] w11 [.one .slice] fun (s3 : Sl) w12 =>
R (.tuple #[s2.v, s3.v]) w12)
theorem Ct.zigguratref02_DivMod {a : Sl} {d : Sl} {w : TW} {X : Nat → Prop} {K : Tel (fl [.one .slice, .one .slice]) (TW → Prop)} (h : Sh.zigguratref02_DivMod a d (Rt X [.one .slice, .one .slice] K w) w.here) : Ct Pg F.zigguratref02_DivMod [a.v, d.v] w X [.one .slice, .one .slice] K :=
 cod (Sh.zigguratref02_DivMod a d) 49 [] [] [(2, 0, []), (3, 6, [(8, .one (.int .i64))]), (1, 9, [])] Go.Proofs.Tryz.f98 (by kernel_rfl) (by kernel_rfl) (by kernel_rfl) (fun _ _ => by kernel_rfl) h
def Sh.zigguratref02_From (a : Sl) (R : Value → TW → Prop) (w : TW) : Prop :=
bnd (wi (2 * (a.n : Int))) fun n =>
mks w 0 n T.uint64 8 [.int .u64 0] fun s w1 =>
Jn [.slice] (fun J0 =>
Lp [.slice, .int .i64] (fun (out : Sl) (i : Int) w2 C0 =>
cond (decide ((i : Int) < (a.n : Int))) (
ixa a i 1 fun a1 =>
ldc (.int .u64) w2.drew a1 fun (v : Int) =>
remK v 4294967296 fun n1 =>
ixa a i 1 fun a2 =>
ldc (.int .u64) w2.drew a2 fun (v1 : Int) =>
divK .u64 v1 4294967296 fun n2 =>
nwb w2.drew [.int .u64 n1, .int .u64 n2] T.uint64 fun b w3 =>
hld w3 [(a2, .int .u64 v1), (a1, .int .u64 v)] <|
apd w3 T.uint64 1 8 out ⟨(some ⟨b, 0, none⟩), 2, 2⟩ fun s1 w4 =>
hld w4 [(a2, .int .u64 v1), (a1, .int .u64 v)] <|
bnd (wi (i + 1)) fun n3 =>
C0 s1 n3 w4) (
J0 out w2)) s 0 w1) fun (out1 : Sl) w5 =>
cl Pg F.zigguratref02_norm [out1.v] w5 [.one .slice] fun (s2 : Sl) w6 =>
R (s2.v) w6
theorem Ct.zigguratref02_From {a : Sl} {w : TW} {X : Nat → Prop} {K : Tel (fl [.one .slice]) (TW → Prop)} (h : Sh.zigguratref02_From a (Rt X [.one .slice] K w) w.here) : Ct Pg F.zigguratref02_From [a.v] w X [.one .slice] K :=
 cod (Sh.zigguratref02_From a) 30 [] [] [(2, 0, [(3, .one .slice)]), (3, 3, [(3, .one .slice), (4, .one (.int .i64))])] Go.Proofs.Tryz.f99 (by kernel_rfl) (by kernel_rfl) (by kernel_rfl) (fun _ _ => by kernel_rfl) h
def Sh.zigguratref02_Zero (a : Sl) (R : Value → TW → Prop) (w : TW) : Prop :=
R (.bool (((a.n : Int) : Int) == 0)) w
theorem Ct.zigguratref02_Zero {a : Sl} {w : TW} {X : Nat → Prop} {K : Tel (fl [.one .bool]) (TW → Prop)} (h : Sh.zigguratref02_Zero a (Rt X [.one .bool] K w) w.here) : Ct Pg F.zigguratref02_Zero [a.v] w X [.one .bool] K :=
 cod (Sh.zigguratref02_Zero a) 6 [] [] [] Go.Proofs.Tryz.f102 (by kernel_rfl) (by kernel_rfl) (by kernel_rfl) (fun _ _ => by kernel_rfl) h
def Sh.zigguratref02_Sub (a : Sl) (b : Sl) (R : Value → TW → Prop) (w : TW) : Prop :=
mks w 0 (a.n : Int) T.uint64 8 [.int .u64 0] fun s w1 =>
Jn [.slice] (fun J0 =>
Lp [.slice, .int .u64, .int .i64] (fun (out : Sl) (c : Int) (i : Int) w2 C0 =>
cond (decide ((i : Int) < (a.n : Int))) (
Jn [.int .u64] (fun J1 =>
cond (decide ((i : Int) < (b.n : Int))) (
ixa b i 1 fun a1 =>
ldc (.int .u64) w2 a1 fun (v : Int) =>
bnd (wu (c + v)) fun n =>
J1 n w2) (
J1 c w2)) fun (s1 : Int) w3 =>
ixa a i 1 fun a2 =>
ldc (.int .u64) w3 a2 fun (v1 : Int) =>
Jn [.slice, .int .u64] (fun J2 =>
cond (decide ((v1 : Int) ≥ s1)) (
ixa a i 1 fun a3 =>
ldc (.int .u64) w3 a3 fun (v2 : Int) =>
bnd (wu (v2 - s1)) fun n1 =>
nwb w3 [.int .u64 n1] T.uint64 fun b1 w4 =>
apd w4 T.uint64 1 8 out ⟨(some ⟨b1, 0, none⟩), 1, 1⟩ fun s2 w5 =>
J2 s2 0 w5) (
ixa a i 1 fun a4 =>
ldc (.int .u64) w3 a4 fun (v3 : Int) =>
bnd (wu (v3 + 4294967296)) fun n2 =>
bnd (wu (n2 - s1)) fun n3 =>
nwb w3 [.int .u64 n3] T.uint64 fun b2 w6 =>
apd w6 T.uint64 1 8 out ⟨(some ⟨b2, 0, none⟩), 1, 1⟩ fun s3 w7 =>
J2 s3 1 w7)) fun (out1 : Sl) (c1 : Int) w8 =>
bnd (wi (i + 1)) fun n4 =>
C0 out1 c1 n4 w8) (
J0 out w2)) s 0 0 w1) fun (out2 : Sl) w9 =>
cl Pg F.zigguratref02_norm [out2.v] w9 [.one .slice] fun (s4 : Sl) w10 =>
R (s4.v) w10
theorem Ct.zigguratref02_Sub {a : Sl} {b : Sl} {w : TW} {X : Nat → Prop} {K : Tel (fl [.one .slice]) (TW → Prop)} (h : Sh.zigguratref02_Sub a b (Rt X [.one .slice] K w) w.here) : Ct Pg F.zigguratref02_Sub [a.v, b.v] w X [.one .slice] K :=
 cod (Sh.zigguratref02_Sub a b) 56 [] [] [(2, 0, [(5, .one .slice)]), (3, 4, [(5, .one .slice), (6, .one (.int .u64)), (7, .one (.int .i64))]), (1, 8, [(8, .one (.int .u64))]), (1, 10, [(5, .one .slice), (6, .one (.int .u64))])] Go.Proofs.Tryz.f112 (by kernel_rfl) (by kernel_rfl) (by kernel_rfl) (fun _ _ => by kernel_rfl) h
def Sh.zigguratref02_norm (a : Sl) (R : Value → TW → Prop) (w : TW) : Prop :=
Jn [.int .i64] (fun J0 =>
Lp [.int .i64] (fun (k : Int) w1 C0 =>
Jn [.bool] (fun J1 =>
cond (decide ((k : Int) > 0)) (
bnd (wi (k - 1)) fun n =>
ixa a n 1 fun a1 =>
ldc (.int .u64) w1 a1 fun (v : Int) =>
J1 ((v : Int) == 0) w1) (
J1 false w1)) fun (x : Bool) w2 =>
cond x (
bnd (wi (k - 1)) fun n1 =>
C0 n1 w2) (
J0 k w2)) (a.n : Int) w) fun (k1 : Int) w3 =>
slc a 0 k1 1 fun s =>
R (s.v) w3
theorem Ct.zigguratref02_norm {a : Sl} {w : TW} {X : Nat → Prop} {K : Tel (fl [.one .slice]) (TW → Prop)} (h : Sh.zigguratref02_norm a (Rt X [.one .slice] K w) w.here) : Ct Pg F.zigguratref02_norm [a.v] w X [.one .slice] K :=
 cod (Sh.zigguratref02_norm a) 21 [] [] [(2, 0, [(3, .one (.int .i64))]), (3, 2, [(3, .one (.int .i64))]), (0, 2, [(15, .one .bool)])] Go.Proofs.Tryz.f119 (by kernel_rfl) (by kernel_rfl) (by kernel_rfl) (fun _ _ => by kernel_rfl) h
def Sh.zigguratref02_twice (r : Sl) (b : Int) (d : Sl) (R : Value → TW → Prop) (w : TW) : Prop :=
Jn [] (fun J0 =>
Lp [.int .u64, .int .i64] (fun (b1 : Int) (i : Int) w1 C0 =>
cond (decide ((i : Int) < (r.n : Int))) (
ixa r i 1 fun a =>
ldc (.int .u64) w1 a fun (v : Int) =>
bnd (wu (2 * v)) fun n =>
bnd (wu (n + b1)) fun n1 =>
remK n1 4294967296 fun n2 =>
ixa r i 1 fun a1 =>
stc w1 a1 (.int .u64 n2) fun w2 =>
divK .u64 n1 4294967296 fun n3 =>
bnd (wi (i + 1)) fun n4 =>
C0 n3 n4 w2) (
J0 w1)) b 0 w) fun  w3 =>
bnd (wi ((r.n : Int) - 1)) fun n5 =>
Jn [.bool] (fun J1 =>
Lp [.bool, .int .i64] (fun (more : Bool) (i1 : Int) w4 C1 =>
cond (decide ((i1 : Int) ≥ 0)) (
Jn [.int .u64] (fun J2 =>
cond (decide ((i1 : Int) < (d.n : Int))) (
ixa d i1 1 fun a2 =>
ldc (.int .u64) w4 a2 fun (v1 : Int) =>
J2 v1 w4) (
J2 0 w4)) fun (y : Int) w5 =>
ixa r i1 1 fun a3 =>
ldc (.int .u64) w5 a3 fun (v2 : Int) =>
cond ((v2 : Int) != y) (
ixa r i1 1 fun a4 =>
ldc (.int .u64) w5 a4 fun (v3 : Int) =>
J1 (decide ((v3 : Int) > y)) w5) (
bnd (wi (i1 - 1)) fun n6 =>
C1 more n6 w5)) (
J1 more w4)) true n5 w3) fun (more1 : Bool) w6 =>
cond (!more1) (
R (.bool false) w6) (
Jn [] (fun J3 =>
Lp [.int .u64, .int .i64] (fun (c : Int) (i2 : Int) w7 C2 =>
cond (decide ((i2 : Int) < (r.n : Int))) (
Jn [.int .u64] (fun J4 =>
cond (decide ((i2 : Int) < (d.n : Int))) (
ixa d i2 1 fun a5 =>
ldc (.int .u64) w7 a5 fun (v4 : Int) =>
bnd (wu (c + v4)) fun n7 =>
J4 n7 w7) (
J4 c w7)) fun (s : Int) w8 =>
ixa r i2 1 fun a6 =>
ldc (.int .u64) w8 a6 fun (v5 : Int) =>
Jn [.int .u64] (fun J5 =>
cond (decide ((v5 : Int) ≥ s)) (
ixa r i2 1 fun a7 =>
ldc (.int .u64) w8 a7 fun (v6 : Int) =>
bnd (wu (v6 - s)) fun n8 =>
ixa r i2 1 fun a8 =>
stc w8 a8 (.int .u64 n8) fun w9 =>
J5 0 w9) (
ixa r i2 1 fun a9 =>
ldc (.int .u64) w8 a9 fun (v7 : Int) =>
bnd (wu (4294967296 - s)) fun n9 =>
bnd (wu (v7 + n9)) fun n10 =>
ixa r i2 1 fun a10 =>
stc w8 a10 (.int .u64 n10) fun w10 =>
J5 1 w10)) fun (c1 : Int) w11 =>
bnd (wi (i2 + 1)) fun n11 =>
C2 c1 n11 w11) (
J3 w7)) 0 0 w6) fun  w12 =>
R (.bool true) w12)
theorem Ct.zigguratref02_twice {r : Sl} {b : Int} {d : Sl} {w : TW} {X : Nat → Prop} {K : Tel (fl [.one .bool]) (TW → Prop)} (h : Sh.zigguratref02_twice r b d (Rt X [.one .bool] K w) w.here) : Ct Pg F.zigguratref02_twice [r.v, .int .u64 b, d.v] w X [.one .bool] K :=
 cod (Sh.zigguratref02_twice r b d) 102 [] [] [(2, 0, []), (3, 2, [(1, .one (.int .u64)), (7, .one (.int .i64))]), (2, 2, [(9, .one .bool)]), (3, 9, [(9, .one .bool), (10, .one (.int .i64))]), (1, 13, [(11, .one (.int .u64))]), (2, 4, []), (3, 20, [(12, .one (.int .u64)), (13, .one (.int .i64))]), (1, 24, [(14, .one (.int .u64))]), (1, 26, [(12, .one (.int .u64))])] Go.Proofs.Tryz.f134 (by kernel_rfl) (by kernel_rfl) (by kernel_rfl) (fun _ _ => by kernel_rfl) h
def Sh.zigguratref02_bit (a : Sl) (i : Int) (R : Value → TW → Prop) (w : TW) : Prop :=
divK .i64 i 32 fun n =>
ixa a n 1 fun a1 =>
ldc (.int .u64) w a1 fun (v : Int) =>
remK i 32 fun n1 =>
bnd (wu (n1)) fun n2 =>
shrK .u64 v n2 fun n3 =>
bnd (bits2 .and .u64 n3 1) fun n4 =>
R (.int .u64 n4) w
theorem Ct.zigguratref02_bit {a : Sl} {i : Int} {w : TW} {X : Nat → Prop} {K : Tel (fl [.one (.int .u64)]) (TW → Prop)} (h : Sh.zigguratref02_bit a i (Rt X [.one (.int .u64)] K w) w.here) : Ct Pg F.zigguratref02_bit [a.v, .int .i64 i] w X [.one (.int .u64)] K :=
 cod (Sh.zigguratref02_bit a i) 15 [] [] [] Go.Proofs.Tryz.f135 (by kernel_rfl) (by kernel_rfl) (by kernel_rfl) (fun _ _ => by kernel_rfl) h
end Go.Proofs.YticehedkalheiaaGreatDoor.Zg
end

section
set_option maxRecDepth 100000
namespace Go.Proofs.YticehedkalheiaaGreatDoor.Zg
def Sh.zigguratref17_Xgcd (a : Sl) (b : Sl) (R : Value → TW → Prop) (w : TW) : Prop :=
nwv w fun w1 =>
nwv w1 fun w2 =>
Jn [.bool, .slice, .bool, .slice, .bool] (fun J0 =>
cl Pg F.zigguratref02_Zero [a.v] w2 [.one .bool] fun (ok : Bool) w3 =>
cond ok (
cl Pg F.zigguratref02_Zero [b.v] w3 [.one .bool] fun (ok1 : Bool) w4 =>
J0 ok1 Sl.nil false Sl.nil false w4) (
J0 false Sl.nil false Sl.nil false w3)) fun (x : Bool) (x1 : Sl) (x2 : Bool) (x3 : Sl) (x4 : Bool) w5 =>
cond x (
nwv w5 fun w6 =>
nwv w6 fun w7 =>
R (.tuple #[.slice none 0 0, .agg #[.slice none 0 0, .bool false], .agg #[.slice none 0 0, .bool false]]) w7) (
cl Pg F.zigguratref17_Small [.int .i64 1] w5 [.agg [.slice, .bool]] fun (r : Sl) (r1 : Bool) w8 =>
cl Pg F.zigguratref17_Small [.int .i64 1] w8 [.agg [.slice, .bool]] fun (r2 : Sl) (r3 : Bool) w9 =>
nwv w9 fun w10 =>
nwv w10 fun w11 =>
nwv w11 fun w12 =>
nwv w12 fun w13 =>
nwv w13 fun w14 =>
nwv w14 fun w15 =>
nwv w15 fun w16 =>
nwv w16 fun w17 =>
Jn [.slice, .slice, .bool, .slice, .bool, .slice, .bool, .slice, .bool] (fun J1 =>
Lp [.slice, .slice, .slice, .bool, .slice, .bool, .slice, .bool, .slice, .bool, .slice, .bool, .slice, .bool] (fun (a1 : Sl) (b1 : Sl) (x5 : Sl) (x6 : Bool) (x7 : Sl) (x8 : Bool) (x0 : Sl) (x01 : Bool) (y0 : Sl) (y01 : Bool) (x11 : Sl) (x12 : Bool) (y1 : Sl) (y11 : Bool) w18 C0 =>
cl Pg F.zigguratref02_Zero [b1.v] w18 [.one .bool] fun (ok2 : Bool) w19 =>
cond (!ok2) (
cl Pg F.zigguratref02_DivMod [a1.v, b1.v] w19 [.one .slice, .one .slice] fun (s : Sl) (s1 : Sl) w20 =>
cl Pg F.zigguratref17_Nat [s.v] w20.drew [.agg [.slice, .bool]] fun (r4 : Sl) (r5 : Bool) w21 =>
cl Pg F.zigguratref17_Mul [.agg #[r4.v, .bool r5], .agg #[x11.v, .bool x12]] w21 [.agg [.slice, .bool]] fun (r6 : Sl) (r7 : Bool) w22 =>
cl Pg F.zigguratref17_Sub [.agg #[x0.v, .bool x01], .agg #[r6.v, .bool r7]] w22 [.agg [.slice, .bool]] fun (r8 : Sl) (r9 : Bool) w23 =>
nwv w23 fun w24 =>
nwv w24 fun w25 =>
cl Pg F.zigguratref17_Nat [s.v] w25.drew [.agg [.slice, .bool]] fun (r10 : Sl) (r11 : Bool) w26 =>
cl Pg F.zigguratref17_Mul [.agg #[r10.v, .bool r11], .agg #[y1.v, .bool y11]] w26 [.agg [.slice, .bool]] fun (r12 : Sl) (r13 : Bool) w27 =>
cl Pg F.zigguratref17_Sub [.agg #[y0.v, .bool y01], .agg #[r12.v, .bool r13]] w27 [.agg [.slice, .bool]] fun (r14 : Sl) (r15 : Bool) w28 =>
nwv w28 fun w29 =>
nwv w29 fun w30 =>
C0 b1 s1 x5 x6 x7 x8 x11 x12 y1 y11 r8 r9 r14 r15 w30) (
J1 a1 x5 x6 x7 x8 x0 x01 y0 y01 w19)) a b x1 x2 x3 x4 r r1 Sl.nil false Sl.nil false r2 r3 w17) fun (a2 : Sl) (_ : Sl) (_ : Bool) (_ : Sl) (_ : Bool) (x02 : Sl) (x03 : Bool) (y02 : Sl) (y03 : Bool) w31 =>
nwv w31.drew fun w32 =>
nwv w32 fun w33 =>
R (.tuple #[a2.v, .agg #[x02.v, .bool x03], .agg #[y02.v, .bool y03]]) w33)
theorem Ct.zigguratref17_Xgcd {a : Sl} {b : Sl} {w : TW} {X : Nat → Prop} {K : Tel (fl [.one .slice, .agg [.slice, .bool], .agg [.slice, .bool]]) (TW → Prop)} (h : Sh.zigguratref17_Xgcd a b (Rt X [.one .slice, .agg [.slice, .bool], .agg [.slice, .bool]] K w) w.here) : Ct Pg F.zigguratref17_Xgcd [a.v, b.v] w X [.one .slice, .agg [.slice, .bool], .agg [.slice, .bool]] K :=
 cod (Sh.zigguratref17_Xgcd a b) 53 [(5, 53), (6, 55), (7, 57), (8, 59), (9, 61), (10, 63)] [(53, 2), (55, 2), (57, 2), (59, 2), (61, 2), (63, 2)] [(0, 1, [(18, .one .bool), (53, .one .slice), (54, .one .bool), (55, .one .slice), (56, .one .bool)]), (2, 0, [(0, .one .slice), (53, .one .slice), (54, .one .bool), (55, .one .slice), (56, .one .bool), (57, .one .slice), (58, .one .bool), (59, .one .slice), (60, .one .bool)]), (3, 4, [(0, .one .slice), (1, .one .slice), (53, .one .slice), (54, .one .bool), (55, .one .slice), (56, .one .bool), (57, .one .slice), (58, .one .bool), (59, .one .slice), (60, .one .bool), (61, .one .slice), (62, .one .bool), (63, .one .slice), (64, .one .bool)])] Go.Proofs.Tryz.f32 (by kernel_rfl) (by kernel_rfl) (by kernel_rfl) (fun _ _ => by kernel_rfl) h
def Sh.zigguratref17_To (a0 : Sl) (a1 : Bool) (R : Value → TW → Prop) (w : TW) : Prop :=
nwv w fun w1 =>
nwv w1 fun w2 =>
cl Pg F.zigguratref02_To [a0.v] w2.drew [.one .slice] fun (s : Sl) w3 =>
nwv w3 fun w4 =>
R (.agg #[s.v, .bool a1]) w4
theorem Ct.zigguratref17_To {a0 : Sl} {a1 : Bool} {w : TW} {X : Nat → Prop} {K : Tel (fl [.agg [.slice, .bool]]) (TW → Prop)} (h : Sh.zigguratref17_To a0 a1 (Rt X [.agg [.slice, .bool]] K w) w.here) : Ct Pg F.zigguratref17_To [.agg #[a0.v, .bool a1]] w X [.agg [.slice, .bool]] K :=
 cod (Sh.zigguratref17_To a0 a1) 9 [(1, 9), (2, 11)] [(9, 2), (11, 2)] [] Go.Proofs.Tryz.f34 (by kernel_rfl) (by kernel_rfl) (by kernel_rfl) (fun _ _ => by kernel_rfl) h
def Sh.zigguratref17_Add (a0 : Sl) (a1 : Bool) (b0 : Sl) (b1 : Bool) (R : Value → TW → Prop) (w : TW) : Prop :=
nwv w fun w1 =>
nwv w1 fun w2 =>
nwv w2 fun w3 =>
cond (a1 == b1) (
cl Pg F.zigguratref02_Add [a0.v, b0.v] w3.drew [.one .slice] fun (s : Sl) w4 =>
cl Pg F.zigguratref17_made [s.v, .bool a1] w4 [.agg [.slice, .bool]] fun (r : Sl) (r1 : Bool) w5 =>
nwv w5 fun w6 =>
R (.agg #[r.v, .bool r1]) w6) (
cl Pg F.zigguratref02_Cmp [a0.v, b0.v] w3 [.one (.int .i64)] fun (r2 : Int) w7 =>
cond (decide ((r2 : Int) ≥ 0)) (
cl Pg F.zigguratref02_Sub [a0.v, b0.v] w7.drew [.one .slice] fun (s1 : Sl) w8 =>
cl Pg F.zigguratref17_made [s1.v, .bool a1] w8 [.agg [.slice, .bool]] fun (r3 : Sl) (r4 : Bool) w9 =>
nwv w9 fun w10 =>
R (.agg #[r3.v, .bool r4]) w10) (
cl Pg F.zigguratref02_Sub [b0.v, a0.v] w7.drew [.one .slice] fun (s2 : Sl) w11 =>
cl Pg F.zigguratref17_made [s2.v, .bool b1] w11 [.agg [.slice, .bool]] fun (r5 : Sl) (r6 : Bool) w12 =>
nwv w12 fun w13 =>
R (.agg #[r5.v, .bool r6]) w13))
theorem Ct.zigguratref17_Add {a0 : Sl} {a1 : Bool} {b0 : Sl} {b1 : Bool} {w : TW} {X : Nat → Prop} {K : Tel (fl [.agg [.slice, .bool]]) (TW → Prop)} (h : Sh.zigguratref17_Add a0 a1 b0 b1 (Rt X [.agg [.slice, .bool]] K w) w.here) : Ct Pg F.zigguratref17_Add [.agg #[a0.v, .bool a1], .agg #[b0.v, .bool b1]] w X [.agg [.slice, .bool]] K :=
 cod (Sh.zigguratref17_Add a0 a1 b0 b1) 40 [(2, 40), (3, 42), (4, 44)] [(40, 2), (42, 2), (44, 2)] [] Go.Proofs.Tryz.f70 (by kernel_rfl) (by kernel_rfl) (by kernel_rfl) (fun _ _ => by kernel_rfl) h
def Sh.zigguratref17_Mul (a0 : Sl) (a1 : Bool) (b0 : Sl) (b1 : Bool) (R : Value → TW → Prop) (w : TW) : Prop :=
nwv w fun w1 =>
nwv w1 fun w2 =>
nwv w2 fun w3 =>
cl Pg F.zigguratref02_Mul [a0.v, b0.v] w3.drew [.one .slice] fun (s : Sl) w4 =>
cl Pg F.zigguratref17_made [s.v, .bool (!(a1 == b1))] w4 [.agg [.slice, .bool]] fun (r : Sl) (r1 : Bool) w5 =>
nwv w5 fun w6 =>
R (.agg #[r.v, .bool r1]) w6
theorem Ct.zigguratref17_Mul {a0 : Sl} {a1 : Bool} {b0 : Sl} {b1 : Bool} {w : TW} {X : Nat → Prop} {K : Tel (fl [.agg [.slice, .bool]]) (TW → Prop)} (h : Sh.zigguratref17_Mul a0 a1 b0 b1 (Rt X [.agg [.slice, .bool]] K w) w.here) : Ct Pg F.zigguratref17_Mul [.agg #[a0.v, .bool a1], .agg #[b0.v, .bool b1]] w X [.agg [.slice, .bool]] K :=
 cod (Sh.zigguratref17_Mul a0 a1 b0 b1) 16 [(2, 16), (3, 18), (4, 20)] [(16, 2), (18, 2), (20, 2)] [] Go.Proofs.Tryz.f71 (by kernel_rfl) (by kernel_rfl) (by kernel_rfl) (fun _ _ => by kernel_rfl) h
def Sh.zigguratref17_From (a0 : Sl) (a1 : Bool) (R : Value → TW → Prop) (w : TW) : Prop :=
nwv w fun w1 =>
nwv w1 fun w2 =>
cl Pg F.zigguratref02_From [a0.v] w2.drew [.one .slice] fun (s : Sl) w3 =>
cl Pg F.zigguratref17_made [s.v, .bool a1] w3 [.agg [.slice, .bool]] fun (r : Sl) (r1 : Bool) w4 =>
nwv w4 fun w5 =>
R (.agg #[r.v, .bool r1]) w5
theorem Ct.zigguratref17_From {a0 : Sl} {a1 : Bool} {w : TW} {X : Nat → Prop} {K : Tel (fl [.agg [.slice, .bool]]) (TW → Prop)} (h : Sh.zigguratref17_From a0 a1 (Rt X [.agg [.slice, .bool]] K w) w.here) : Ct Pg F.zigguratref17_From [.agg #[a0.v, .bool a1]] w X [.agg [.slice, .bool]] K :=
 cod (Sh.zigguratref17_From a0 a1) 9 [(1, 9), (2, 11)] [(9, 2), (11, 2)] [] Go.Proofs.Tryz.f72 (by kernel_rfl) (by kernel_rfl) (by kernel_rfl) (fun _ _ => by kernel_rfl) h
def Sh.zigguratref17_Inverse (a : Sl) (m : Sl) (R : Value → TW → Prop) (w : TW) : Prop :=
cl Pg F.zigguratref02_Mod [a.v, m.v] w [.one .slice] fun (s : Sl) w1 =>
cl Pg F.zigguratref17_Xgcd [s.v, m.v] w1 [.one .slice, .agg [.slice, .bool], .agg [.slice, .bool]] fun (s1 : Sl) (r : Sl) (r1 : Bool) (_ : Sl) (_ : Bool) w2 =>
nwv w2 fun w3 =>
nwv w3 fun w4 =>
nwv w4 fun w5 =>
nwv w5 fun w6 =>
cl Pg F.zigguratref02_Small [.int .u64 1] w6 [.one .slice] fun (s2 : Sl) w7 =>
cl Pg F.zigguratref02_Cmp [s1.v, s2.v] w7 [.one (.int .i64)] fun (r4 : Int) w8 =>
cond ((r4 : Int) != 0) (
R (.tuple #[.slice none 0 0, .bool false]) w8) (
cl Pg F.zigguratref17_Residue [.agg #[r.v, .bool r1], m.v] w8 [.one .slice] fun (s3 : Sl) w9 =>
R (.tuple #[s3.v, .bool true]) w9)
theorem Ct.zigguratref17_Inverse {a : Sl} {m : Sl} {w : TW} {X : Nat → Prop} {K : Tel (fl [.one .slice, .one .bool]) (TW → Prop)} (h : Sh.zigguratref17_Inverse a m (Rt X [.one .slice, .one .bool] K w) w.here) : Ct Pg F.zigguratref17_Inverse [a.v, m.v] w X [.one .slice, .one .bool] K :=
 cod (Sh.zigguratref17_Inverse a m) 25 [(7, 25), (8, 27)] [(25, 2), (27, 2)] [] Go.Proofs.Tryz.f76 (by kernel_rfl) (by kernel_rfl) (by kernel_rfl) (fun _ _ => by kernel_rfl) h
def Sh.zigguratref17_Residue (a0 : Sl) (a1 : Bool) (m : Sl) (R : Value → TW → Prop) (w : TW) : Prop :=
nwv w fun w1 =>
(cl Pg F.zigguratref17_Nat [m.v] w1.drew [.agg [.slice, .bool]] fun (r : Sl) (r1 : Bool) w2 =>
(cl Pg F.zigguratref17_Euclid [.agg #[a0.v, .bool a1], .agg #[r.v, .bool r1]] w2 [.agg [.slice, .bool], .agg [.slice, .bool]] fun (_ : Sl) (_ : Bool) (r4 : Sl) (_ : Bool) w3 =>
(nwv w3 fun w4 =>
nwv w4 fun w5 =>
nwv w5 fun w6 =>
nwv w6 fun w7 =>
R (r4.v) w7) ∧
(nwv w3 fun w8 =>
nwv w8 fun w9 =>
nwv w9 fun w10 =>
nwv w10 fun w11 =>
R (r4.v) w11)) ∧
(nwv w2 fun w12 =>
(cl Pg F.zigguratref17_Euclid [.agg #[a0.v, .bool a1], .agg #[r.v, .bool r1]] w12 [.agg [.slice, .bool], .agg [.slice, .bool]] fun (_ : Sl) (_ : Bool) (r8 : Sl) (_ : Bool) w13 =>
nwv w13 fun w14 =>
nwv w14 fun w15 =>
nwv w15 fun w16 =>
R (r8.v) w16) ∧
(nwv w12 fun w17 =>
cl Pg F.zigguratref17_Euclid [.agg #[a0.v, .bool a1], .agg #[r.v, .bool r1]] w17 [.agg [.slice, .bool], .agg [.slice, .bool]] fun (_ : Sl) (_ : Bool) (r12 : Sl) (_ : Bool) w18 =>
nwv w18 fun w19 =>
nwv w19 fun w20 =>
R (r12.v) w20)) ∧
(nwv w2 fun w21 =>
(cl Pg F.zigguratref17_Euclid [.agg #[a0.v, .bool a1], .agg #[r.v, .bool r1]] w21 [.agg [.slice, .bool], .agg [.slice, .bool]] fun (_ : Sl) (_ : Bool) (r16 : Sl) (_ : Bool) w22 =>
nwv w22 fun w23 =>
nwv w23 fun w24 =>
nwv w24 fun w25 =>
R (r16.v) w25) ∧
(nwv w21 fun w26 =>
cl Pg F.zigguratref17_Euclid [.agg #[a0.v, .bool a1], .agg #[r.v, .bool r1]] w26 [.agg [.slice, .bool], .agg [.slice, .bool]] fun (_ : Sl) (_ : Bool) (r20 : Sl) (_ : Bool) w27 =>
nwv w27 fun w28 =>
nwv w28 fun w29 =>
R (r20.v) w29))) ∧
(nwv w1.drew fun w30 =>
(cl Pg F.zigguratref17_Nat [m.v] w30 [.agg [.slice, .bool]] fun (r22 : Sl) (r23 : Bool) w31 =>
(cl Pg F.zigguratref17_Euclid [.agg #[a0.v, .bool a1], .agg #[r22.v, .bool r23]] w31 [.agg [.slice, .bool], .agg [.slice, .bool]] fun (_ : Sl) (_ : Bool) (r26 : Sl) (_ : Bool) w32 =>
nwv w32 fun w33 =>
nwv w33 fun w34 =>
nwv w34 fun w35 =>
R (r26.v) w35) ∧
(nwv w31 fun w36 =>
cl Pg F.zigguratref17_Euclid [.agg #[a0.v, .bool a1], .agg #[r22.v, .bool r23]] w36 [.agg [.slice, .bool], .agg [.slice, .bool]] fun (_ : Sl) (_ : Bool) (r30 : Sl) (_ : Bool) w37 =>
nwv w37 fun w38 =>
nwv w38 fun w39 =>
R (r30.v) w39)) ∧
(nwv w30 fun w40 =>
cl Pg F.zigguratref17_Nat [m.v] w40 [.agg [.slice, .bool]] fun (r32 : Sl) (r33 : Bool) w41 =>
cl Pg F.zigguratref17_Euclid [.agg #[a0.v, .bool a1], .agg #[r32.v, .bool r33]] w41 [.agg [.slice, .bool], .agg [.slice, .bool]] fun (_ : Sl) (_ : Bool) (r36 : Sl) (_ : Bool) w42 =>
nwv w42 fun w43 =>
nwv w43 fun w44 =>
R (r36.v) w44)) ∧
(nwv w1.drew fun w45 =>
(cl Pg F.zigguratref17_Nat [m.v] w45 [.agg [.slice, .bool]] fun (r38 : Sl) (r39 : Bool) w46 =>
(cl Pg F.zigguratref17_Euclid [.agg #[a0.v, .bool a1], .agg #[r38.v, .bool r39]] w46 [.agg [.slice, .bool], .agg [.slice, .bool]] fun (_ : Sl) (_ : Bool) (r42 : Sl) (_ : Bool) w47 =>
nwv w47 fun w48 =>
nwv w48 fun w49 =>
nwv w49 fun w50 =>
R (r42.v) w50) ∧
(nwv w46 fun w51 =>
cl Pg F.zigguratref17_Euclid [.agg #[a0.v, .bool a1], .agg #[r38.v, .bool r39]] w51 [.agg [.slice, .bool], .agg [.slice, .bool]] fun (_ : Sl) (_ : Bool) (r46 : Sl) (_ : Bool) w52 =>
nwv w52 fun w53 =>
nwv w53 fun w54 =>
R (r46.v) w54)) ∧
(nwv w45 fun w55 =>
cl Pg F.zigguratref17_Nat [m.v] w55 [.agg [.slice, .bool]] fun (r48 : Sl) (r49 : Bool) w56 =>
cl Pg F.zigguratref17_Euclid [.agg #[a0.v, .bool a1], .agg #[r48.v, .bool r49]] w56 [.agg [.slice, .bool], .agg [.slice, .bool]] fun (_ : Sl) (_ : Bool) (r52 : Sl) (_ : Bool) w57 =>
nwv w57 fun w58 =>
nwv w58 fun w59 =>
R (r52.v) w59))
theorem Ct.zigguratref17_Residue {a0 : Sl} {a1 : Bool} {m : Sl} {w : TW} {X : Nat → Prop} {K : Tel (fl [.one .slice]) (TW → Prop)} (h : Sh.zigguratref17_Residue a0 a1 m (Rt X [.one .slice] K w) w.here) : Ct Pg F.zigguratref17_Residue [.agg #[a0.v, .bool a1], m.v] w X [.one .slice] K :=
 cod (Sh.zigguratref17_Residue a0 a1 m) 16 [(2, 16), (5, 18), (6, 20)] [(16, 2), (18, 2), (20, 2)] [] Go.Proofs.Tryz.f80 (by kernel_rfl) (by kernel_rfl) (by kernel_rfl) (fun _ _ => by kernel_rfl) h
def Sh.zigguratref17_Signed (r : Sl) (m : Sl) (R : Value → TW → Prop) (w : TW) : Prop :=
nwv w fun w1 =>
cl Pg F.zigguratref02_Mod [r.v, m.v] w1 [.one .slice] fun (s : Sl) w2 =>
cl Pg F.zigguratref02_Add [s.v, s.v] w2 [.one .slice] fun (s1 : Sl) w3 =>
cl Pg F.zigguratref02_Cmp [s1.v, m.v] w3 [.one (.int .i64)] fun (r1 : Int) w4 =>
cond (decide ((r1 : Int) > 0)) (
cl Pg F.zigguratref17_Nat [s.v] w4 [.agg [.slice, .bool]] fun (r2 : Sl) (r3 : Bool) w5 =>
cl Pg F.zigguratref17_Nat [m.v] w5 [.agg [.slice, .bool]] fun (r4 : Sl) (r5 : Bool) w6 =>
cl Pg F.zigguratref17_Sub [.agg #[r2.v, .bool r3], .agg #[r4.v, .bool r5]] w6 [.agg [.slice, .bool]] fun (r6 : Sl) (r7 : Bool) w7 =>
nwv w7 fun w8 =>
R (.agg #[r6.v, .bool r7]) w8) (
cl Pg F.zigguratref17_Nat [s.v] w4 [.agg [.slice, .bool]] fun (r8 : Sl) (r9 : Bool) w9 =>
nwv w9 fun w10 =>
R (.agg #[r8.v, .bool r9]) w10)
theorem Ct.zigguratref17_Signed {r : Sl} {m : Sl} {w : TW} {X : Nat → Prop} {K : Tel (fl [.agg [.slice, .bool]]) (TW → Prop)} (h : Sh.zigguratref17_Signed r m (Rt X [.agg [.slice, .bool]] K w) w.here) : Ct Pg F.zigguratref17_Signed [r.v, m.v] w X [.agg [.slice, .bool]] K :=
 cod (Sh.zigguratref17_Signed r m) 21 [(4, 21)] [(21, 2)] [] Go.Proofs.Tryz.f87 (by kernel_rfl) (by kernel_rfl) (by kernel_rfl) (fun _ _ => by kernel_rfl) h
def Sh.zigguratref17_Small (n : Int) (R : Value → TW → Prop) (w : TW) : Prop :=
nwv w fun w1 =>
cond (decide ((n : Int) < 0)) (
bnd (wi (0 - n)) fun n1 =>
bnd (wu (n1)) fun n2 =>
cl Pg F.zigguratref02_Small [.int .u64 n2] w1 [.one .slice] fun (s : Sl) w2 =>
cl Pg F.zigguratref17_made [s.v, .bool true] w2 [.agg [.slice, .bool]] fun (r : Sl) (r1 : Bool) w3 =>
nwv w3 fun w4 =>
R (.agg #[r.v, .bool r1]) w4) (
bnd (wu (n)) fun n3 =>
cl Pg F.zigguratref02_Small [.int .u64 n3] w1 [.one .slice] fun (s1 : Sl) w5 =>
cl Pg F.zigguratref17_made [s1.v, .bool false] w5 [.agg [.slice, .bool]] fun (r2 : Sl) (r3 : Bool) w6 =>
nwv w6 fun w7 =>
R (.agg #[r2.v, .bool r3]) w7)
theorem Ct.zigguratref17_Small {n : Int} {w : TW} {X : Nat → Prop} {K : Tel (fl [.agg [.slice, .bool]]) (TW → Prop)} (h : Sh.zigguratref17_Small n (Rt X [.agg [.slice, .bool]] K w) w.here) : Ct Pg F.zigguratref17_Small [.int .i64 n] w X [.agg [.slice, .bool]] K :=
 cod (Sh.zigguratref17_Small n) 14 [(2, 14)] [(14, 2)] [] Go.Proofs.Tryz.f103 (by kernel_rfl) (by kernel_rfl) (by kernel_rfl) (fun _ _ => by kernel_rfl) h
def Sh.zigguratref17_Sub (a0 : Sl) (a1 : Bool) (b0 : Sl) (b1 : Bool) (R : Value → TW → Prop) (w : TW) : Prop :=
nwv w fun w1 =>
nwv w1 fun w2 =>
nwv w2 fun w3 =>
cl Pg F.zigguratref17_Neg [.agg #[b0.v, .bool b1]] w3.drew [.agg [.slice, .bool]] fun (r : Sl) (r1 : Bool) w4 =>
cl Pg F.zigguratref17_Add [.agg #[a0.v, .bool a1], .agg #[r.v, .bool r1]] w4 [.agg [.slice, .bool]] fun (r2 : Sl) (r3 : Bool) w5 =>
nwv w5 fun w6 =>
R (.agg #[r2.v, .bool r3]) w6
theorem Ct.zigguratref17_Sub {a0 : Sl} {a1 : Bool} {b0 : Sl} {b1 : Bool} {w : TW} {X : Nat → Prop} {K : Tel (fl [.agg [.slice, .bool]]) (TW → Prop)} (h : Sh.zigguratref17_Sub a0 a1 b0 b1 (Rt X [.agg [.slice, .bool]] K w) w.here) : Ct Pg F.zigguratref17_Sub [.agg #[a0.v, .bool a1], .agg #[b0.v, .bool b1]] w X [.agg [.slice, .bool]] K :=
 cod (Sh.zigguratref17_Sub a0 a1 b0 b1) 9 [(2, 9), (3, 11), (4, 13)] [(9, 2), (11, 2), (13, 2)] [] Go.Proofs.Tryz.f104 (by kernel_rfl) (by kernel_rfl) (by kernel_rfl) (fun _ _ => by kernel_rfl) h
def Sh.zigguratref17_Nat (n : Sl) (R : Value → TW → Prop) (w : TW) : Prop :=
nwv w fun w1 =>
nwv w1 fun w2 =>
R (.agg #[n.v, .bool false]) w2
theorem Ct.zigguratref17_Nat {n : Sl} {w : TW} {X : Nat → Prop} {K : Tel (fl [.agg [.slice, .bool]]) (TW → Prop)} (h : Sh.zigguratref17_Nat n (Rt X [.agg [.slice, .bool]] K w) w.here) : Ct Pg F.zigguratref17_Nat [n.v] w X [.agg [.slice, .bool]] K :=
 cod (Sh.zigguratref17_Nat n) 5 [(2, 5)] [(5, 2)] [] Go.Proofs.Tryz.f105 (by kernel_rfl) (by kernel_rfl) (by kernel_rfl) (fun _ _ => by kernel_rfl) h
def Sh.zigguratref17_made (n : Sl) (neg : Bool) (R : Value → TW → Prop) (w : TW) : Prop :=
nwv w fun w1 =>
Jn [.slice, .bool] (fun J0 =>
cond neg (
cl Pg F.zigguratref02_Zero [n.v] w1 [.one .bool] fun (ok : Bool) w2 =>
nwv w2 fun w3 =>
J0 n (!ok) w3) (
nwv w1 fun w4 =>
J0 n false w4)) fun (x : Sl) (x1 : Bool) w5 =>
R (.agg #[x.v, .bool x1]) w5
theorem Ct.zigguratref17_made {n : Sl} {neg : Bool} {w : TW} {X : Nat → Prop} {K : Tel (fl [.agg [.slice, .bool]]) (TW → Prop)} (h : Sh.zigguratref17_made n neg (Rt X [.agg [.slice, .bool]] K w) w.here) : Ct Pg F.zigguratref17_made [n.v, .bool neg] w X [.agg [.slice, .bool]] K :=
 cod (Sh.zigguratref17_made n neg) 13 [(4, 13)] [(13, 2)] [(0, 1, [(13, .one .slice), (14, .one .bool)])] Go.Proofs.Tryz.f124 (by kernel_rfl) (by kernel_rfl) (by kernel_rfl) (fun _ _ => by kernel_rfl) h
def Sh.zigguratref17_Euclid (a0 : Sl) (a1 : Bool) (b0 : Sl) (b1 : Bool) (R : Value → TW → Prop) (w : TW) : Prop :=
nwv w fun w1 =>
nwv w1 fun w2 =>
nwv w2 fun w3 =>
nwv w3 fun w4 =>
cl Pg F.zigguratref17_Trunc [.agg #[a0.v, .bool a1], .agg #[b0.v, .bool b1]] w4 [.agg [.slice, .bool], .agg [.slice, .bool]] fun (r : Sl) (r1 : Bool) (r2 : Sl) (r3 : Bool) w5 =>
nwv w5 fun w6 =>
nwv w6 fun w7 =>
nwv w7 fun w8 =>
nwv w8 fun w9 =>
cond (!r3) (
nwv w9.drew fun w10 =>
nwv w10 fun w11 =>
R (.tuple #[.agg #[r.v, .bool r1], .agg #[r2.v, .bool r3]]) w11) (
cond b1 (
cl Pg F.zigguratref17_Small [.int .i64 1] w9.drew [.agg [.slice, .bool]] fun (r4 : Sl) (r5 : Bool) w12 =>
cl Pg F.zigguratref17_Add [.agg #[r.v, .bool r1], .agg #[r4.v, .bool r5]] w12 [.agg [.slice, .bool]] fun (r6 : Sl) (r7 : Bool) w13 =>
cl Pg F.zigguratref17_Sub [.agg #[r2.v, .bool r3], .agg #[b0.v, .bool b1]] w13 [.agg [.slice, .bool]] fun (r8 : Sl) (r9 : Bool) w14 =>
nwv w14 fun w15 =>
nwv w15 fun w16 =>
R (.tuple #[.agg #[r6.v, .bool r7], .agg #[r8.v, .bool r9]]) w16) (
cl Pg F.zigguratref17_Small [.int .i64 1] w9.drew [.agg [.slice, .bool]] fun (r10 : Sl) (r11 : Bool) w17 =>
cl Pg F.zigguratref17_Sub [.agg #[r.v, .bool r1], .agg #[r10.v, .bool r11]] w17 [.agg [.slice, .bool]] fun (r12 : Sl) (r13 : Bool) w18 =>
cl Pg F.zigguratref17_Add [.agg #[r2.v, .bool r3], .agg #[b0.v, .bool b1]] w18 [.agg [.slice, .bool]] fun (r14 : Sl) (r15 : Bool) w19 =>
nwv w19 fun w20 =>
nwv w20 fun w21 =>
R (.tuple #[.agg #[r12.v, .bool r13], .agg #[r14.v, .bool r15]]) w21))
theorem Ct.zigguratref17_Euclid {a0 : Sl} {a1 : Bool} {b0 : Sl} {b1 : Bool} {w : TW} {X : Nat → Prop} {K : Tel (fl [.agg [.slice, .bool], .agg [.slice, .bool]]) (TW → Prop)} (h : Sh.zigguratref17_Euclid a0 a1 b0 b1 (Rt X [.agg [.slice, .bool], .agg [.slice, .bool]] K w) w.here) : Ct Pg F.zigguratref17_Euclid [.agg #[a0.v, .bool a1], .agg #[b0.v, .bool b1]] w X [.agg [.slice, .bool], .agg [.slice, .bool]] K :=
 cod (Sh.zigguratref17_Euclid a0 a1 b0 b1) 33 [(2, 33), (3, 35), (4, 37), (5, 39), (6, 41), (7, 43)] [(33, 2), (35, 2), (37, 2), (39, 2), (41, 2), (43, 2)] [] Go.Proofs.Tryz.f125 (by kernel_rfl) (by kernel_rfl) (by kernel_rfl) (fun _ _ => by kernel_rfl) h
def Sh.zigguratref17_Neg (a0 : Sl) (a1 : Bool) (R : Value → TW → Prop) (w : TW) : Prop :=
nwv w fun w1 =>
nwv w1 fun w2 =>
cl Pg F.zigguratref17_made [a0.v, .bool (!a1)] w2 [.agg [.slice, .bool]] fun (r : Sl) (r1 : Bool) w3 =>
nwv w3 fun w4 =>
R (.agg #[r.v, .bool r1]) w4
theorem Ct.zigguratref17_Neg {a0 : Sl} {a1 : Bool} {w : TW} {X : Nat → Prop} {K : Tel (fl [.agg [.slice, .bool]]) (TW → Prop)} (h : Sh.zigguratref17_Neg a0 a1 (Rt X [.agg [.slice, .bool]] K w) w.here) : Ct Pg F.zigguratref17_Neg [.agg #[a0.v, .bool a1]] w X [.agg [.slice, .bool]] K :=
 cod (Sh.zigguratref17_Neg a0 a1) 9 [(1, 9), (2, 11)] [(9, 2), (11, 2)] [] Go.Proofs.Tryz.f137 (by kernel_rfl) (by kernel_rfl) (by kernel_rfl) (fun _ _ => by kernel_rfl) h
def Sh.zigguratref17_Trunc (a0 : Sl) (a1 : Bool) (b0 : Sl) (b1 : Bool) (R : Value → TW → Prop) (w : TW) : Prop :=
nwv w fun w1 =>
nwv w1 fun w2 =>
nwv w2 fun w3 =>
nwv w3 fun w4 =>
cl Pg F.zigguratref02_DivMod [a0.v, b0.v] w4 [.one .slice, .one .slice] fun (s : Sl) (s1 : Sl) w5 =>
cl Pg F.zigguratref17_made [s.v, .bool (!(a1 == b1))] w5.drew [.agg [.slice, .bool]] fun (r : Sl) (r1 : Bool) w6 =>
cl Pg F.zigguratref17_made [s1.v, .bool a1] w6 [.agg [.slice, .bool]] fun (r2 : Sl) (r3 : Bool) w7 =>
nwv w7 fun w8 =>
nwv w8 fun w9 =>
R (.tuple #[.agg #[r.v, .bool r1], .agg #[r2.v, .bool r3]]) w9
theorem Ct.zigguratref17_Trunc {a0 : Sl} {a1 : Bool} {b0 : Sl} {b1 : Bool} {w : TW} {X : Nat → Prop} {K : Tel (fl [.agg [.slice, .bool], .agg [.slice, .bool]]) (TW → Prop)} (h : Sh.zigguratref17_Trunc a0 a1 b0 b1 (Rt X [.agg [.slice, .bool], .agg [.slice, .bool]] K w) w.here) : Ct Pg F.zigguratref17_Trunc [.agg #[a0.v, .bool a1], .agg #[b0.v, .bool b1]] w X [.agg [.slice, .bool], .agg [.slice, .bool]] K :=
 cod (Sh.zigguratref17_Trunc a0 a1 b0 b1) 27 [(2, 27), (3, 29), (4, 31), (5, 33)] [(27, 2), (29, 2), (31, 2), (33, 2)] [] Go.Proofs.Tryz.f147 (by kernel_rfl) (by kernel_rfl) (by kernel_rfl) (fun _ _ => by kernel_rfl) h
end Go.Proofs.YticehedkalheiaaGreatDoor.Zg
end
