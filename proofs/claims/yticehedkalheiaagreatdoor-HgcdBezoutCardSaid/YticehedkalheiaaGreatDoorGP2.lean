/- A part of the proofs of this seat's laws: words, lemmas or contracts of its functions. -/
import Derived.Test.YticehedkalheiaaGreatDoorGC
set_option linter.unusedVariables false
set_option linter.unusedSimpArgs false
set_option linter.unnecessarySimpa false
section
set_option maxRecDepth 100000
namespace Go.Proofs.YticehedkalheiaaGreatDoor.Zg
def Sh.limb_Norm (a : Sl) (R : Value → TW → Prop) (w : TW) : Prop :=
cl Pg F.limb_trim [a.v] w [.one .slice] fun (s : Sl) w1 =>
apd w1 T.uint64 1 8 Sl.nil s fun s1 w2 =>
R (s1.v) w2
theorem Ct.limb_Norm {a : Sl} {w : TW} {X : Nat → Prop} {K : Tel (fl [.one .slice]) (TW → Prop)} (h : Sh.limb_Norm a (Rt X [.one .slice] K w) w.here) : Ct Pg F.limb_Norm [a.v] w X [.one .slice] K :=
  cod (Sh.limb_Norm a) 6 [] [] [] Go.Proofs.Tryz.f89 (by kernel_rfl) (by kernel_rfl) (by kernel_rfl) (fun _ _ => by kernel_rfl) h
def Sh.limb_Cmp (a : Sl) (b : Sl) (R : Value → TW → Prop) (w : TW) : Prop :=
cl Pg F.api_Nat_Len [a.v] w [.one (.int .i64)] fun (r : Int) w1 =>
cl Pg F.api_Nat_Len [b.v] w1 [.one (.int .i64)] fun (r1 : Int) w2 =>
cond ((r : Int) != r1) (
cond (decide ((r : Int) < r1)) (
R (.int .i64 (-1)) w2) (
R (.int .i64 1) w2)) (
bnd (wi (r - 1)) fun n =>
Jn [] (fun J0 =>
Lp [.int .i64] (fun (i : Int) w3 C0 =>
cond (decide ((i : Int) ≥ 0)) (
ixa a i 1 fun a1 =>
ldc (.int .u64) w3.drew a1 fun (v : Int) =>
ixa b i 1 fun a2 =>
ldc (.int .u64) w3.drew a2 fun (v1 : Int) =>
cond ((v : Int) != v1) (
ixa a i 1 fun a3 =>
ldc (.int .u64) w3.drew.drew a3 fun (v2 : Int) =>
ixa b i 1 fun a4 =>
ldc (.int .u64) w3.drew.drew a4 fun (v3 : Int) =>
cond (decide ((v2 : Int) < v3)) (
R (.int .i64 (-1)) w3.drew.drew) (
R (.int .i64 1) w3.drew.drew)) (
bnd (wi (i - 1)) fun n1 =>
C0 n1 w3.drew)) (
J0 w3)) n w2) fun  w4 =>
R (.int .i64 0) w4)
theorem Ct.limb_Cmp {a : Sl} {b : Sl} {w : TW} {X : Nat → Prop} {K : Tel (fl [.one (.int .i64)]) (TW → Prop)} (h : Sh.limb_Cmp a b (Rt X [.one (.int .i64)] K w) w.here) : Ct Pg F.limb_Cmp [a.v, b.v] w X [.one (.int .i64)] K :=
  cod (Sh.limb_Cmp a b) 42 [] [] [(2, 0, []), (3, 7, [(7, .one (.int .i64))])] Go.Proofs.Tryz.f90 (by kernel_rfl) (by kernel_rfl) (by kernel_rfl) (fun _ _ => by kernel_rfl) h
def Sh.limb_One (y : Int) (R : Value → TW → Prop) (w : TW) : Prop :=
cond ((y : Int) == 0) (
R (.slice none 0 0) w) (
nwb w [.int .u64 y] T.uint64 fun b w1 =>
R (.slice (some ⟨b, 0, none⟩) 1 1) w1)
theorem Ct.limb_One {y : Int} {w : TW} {X : Nat → Prop} {K : Tel (fl [.one .slice]) (TW → Prop)} (h : Sh.limb_One y (Rt X [.one .slice] K w) w.here) : Ct Pg F.limb_One [.int .u64 y] w X [.one .slice] K :=
  cod (Sh.limb_One y) 7 [] [] [] Go.Proofs.Tryz.f101 (by kernel_rfl) (by kernel_rfl) (by kernel_rfl) (fun _ _ => by kernel_rfl) h
def Sh.limb_Add (a : Sl) (b : Sl) (R : Value → TW → Prop) (w : TW) : Prop :=
cl Pg F.limb_trim [a.v] w [.one .slice] fun (s : Sl) w1 =>
cl Pg F.limb_trim [b.v] w1 [.one .slice] fun (s1 : Sl) w2 =>
Jn [.slice, .slice] (fun J0 =>
cond (decide (((s.n : Int) : Int) < (s1.n : Int))) (
J0 s1 s w2) (
J0 s s1 w2)) fun (a1 : Sl) (b1 : Sl) w3 =>
bnd (wi ((a1.n : Int) + 1)) fun n =>
mks w3 n n T.uint64 8 [.int .u64 0] fun s2 w4 =>
Jn [.int .u64] (fun J1 =>
Lp [.int .u64, .int .i64] (fun (c : Int) (x : Int) w5 C0 =>
cond (decide ((x : Int) < (a1.n : Int))) (
Jn [.int .u64] (fun J2 =>
cond (decide ((x : Int) < (b1.n : Int))) (
ixa b1 x 1 fun a2 =>
ldc (.int .u64) w5 a2 fun (v : Int) =>
J2 v w5) (
J2 0 w5)) fun (y : Int) w6 =>
ixa a1 x 1 fun a3 =>
ldc (.int .u64) w6 a3 fun (v1 : Int) =>
add64 v1 y c fun s3 c1 =>
ixa s2 x 1 fun a4 =>
stc w6 a4 (.int .u64 s3) fun w7 =>
bnd (wi (x + 1)) fun n1 =>
C0 c1 n1 w7) (
J1 c w5)) 0 0 w4) fun (c2 : Int) w8 =>
ixa s2 (a1.n : Int) 1 fun a5 =>
stc w8 a5 (.int .u64 c2) fun w9 =>
cl Pg F.limb_trim [s2.v] w9 [.one .slice] fun (s4 : Sl) w10 =>
R (s4.v) w10
theorem Ct.limb_Add {a : Sl} {b : Sl} {w : TW} {X : Nat → Prop} {K : Tel (fl [.one .slice]) (TW → Prop)} (h : Sh.limb_Add a b (Rt X [.one .slice] K w) w.here) : Ct Pg F.limb_Add [a.v, b.v] w X [.one .slice] K :=
  cod (Sh.limb_Add a b) 58 [] [] [(1, 3, [(0, .one .slice), (1, .one .slice)]), (2, 0, [(6, .one (.int .u64))]), (3, 7, [(6, .one (.int .u64)), (26, .one (.int .i64))]), (1, 11, [(8, .one (.int .u64))])] Go.Proofs.Tryz.f108 (by kernel_rfl) (by kernel_rfl) (by kernel_rfl) (fun _ _ => by kernel_rfl) h
def Sh.limb_Shr (a : Sl) (n : Int) (R : Value → TW → Prop) (w : TW) : Prop :=
cl Pg F.limb_within [.int .i64 n, .int .i64 1048576] w [.one (.int .i64)] fun (r : Int) w1 =>
cl Pg F.limb_trim [a.v] w1 [.one .slice] fun (s : Sl) w2 =>
divK .i64 r 64 fun n1 =>
remK r 64 fun n2 =>
bnd (wu (n2)) fun n3 =>
cond (decide ((n1 : Int) ≥ (s.n : Int))) (
R (.slice none 0 0) w2) (
bnd (wi ((s.n : Int) - n1)) fun n4 =>
mks w2 n4 n4 T.uint64 8 [.int .u64 0] fun s1 w3 =>
Jn [] (fun J0 =>
Lp [.int .i64] (fun (x : Int) w4 C0 =>
cond (decide ((x : Int) < (s1.n : Int))) (
bnd (wi (x + n1)) fun n5 =>
ixa s n5 1 fun a1 =>
ldc (.int .u64) w4 a1 fun (v : Int) =>
shrK .u64 v n3 fun n6 =>
ixa s1 x 1 fun a2 =>
stc w4 a2 (.int .u64 n6) fun w5 =>
Jn [.bool] (fun J1 =>
cond (decide ((n3 : Int) > 0)) (
bnd (wi (x + n1)) fun n7 =>
bnd (wi (n7 + 1)) fun n8 =>
J1 (decide ((n8 : Int) < (s.n : Int))) w5) (
J1 false w5)) fun (x1 : Bool) w6 =>
Jn [] (fun J2 =>
cond x1 (
ixa s1 x 1 fun a3 =>
ldc (.int .u64) w6.drew a3 fun (v1 : Int) =>
bnd (wi (x + n1)) fun n9 =>
bnd (wi (n9 + 1)) fun n10 =>
ixa s n10 1 fun a4 =>
ldc (.int .u64) w6.drew a4 fun (v2 : Int) =>
bnd (wu (64 - n3)) fun n11 =>
shlK .u64 v2 n11 fun n12 =>
bnd (bits2 .or .u64 v1 n12) fun n13 =>
ixa s1 x 1 fun a5 =>
stc w6.drew a5 (.int .u64 n13) fun w7 =>
J2 w7) (
J2 w6)) fun  w8 =>
bnd (wi (x + 1)) fun n14 =>
C0 n14 w8) (
J0 w4)) 0 w3) fun  w9 =>
cl Pg F.limb_trim [s1.v] w9 [.one .slice] fun (s2 : Sl) w10 =>
R (s2.v) w10)
theorem Ct.limb_Shr {a : Sl} {n : Int} {w : TW} {X : Nat → Prop} {K : Tel (fl [.one .slice]) (TW → Prop)} (h : Sh.limb_Shr a n (Rt X [.one .slice] K w) w.here) : Ct Pg F.limb_Shr [a.v, .int .i64 n] w X [.one .slice] K :=
  cod (Sh.limb_Shr a n) 75 [] [] [(2, 0, []), (3, 8, [(29, .one (.int .i64))]), (0, 11, [(53, .one .bool)]), (1, 12, [])] Go.Proofs.Tryz.f115 (by kernel_rfl) (by kernel_rfl) (by kernel_rfl) (fun _ _ => by kernel_rfl) h
def Sh.limb_Shl (a : Sl) (n : Int) (R : Value → TW → Prop) (w : TW) : Prop :=
cl Pg F.limb_within [.int .i64 n, .int .i64 1048576] w [.one (.int .i64)] fun (r : Int) w1 =>
cl Pg F.limb_trim [a.v] w1 [.one .slice] fun (s : Sl) w2 =>
cond (((s.n : Int) : Int) == 0) (
R (.slice none 0 0) w2) (
divK .i64 r 64 fun n1 =>
remK r 64 fun n2 =>
bnd (wu (n2)) fun n3 =>
bnd (wi ((s.n : Int) + n1)) fun n4 =>
bnd (wi (n4 + 1)) fun n5 =>
mks w2 n5 n5 T.uint64 8 [.int .u64 0] fun s1 w3 =>
Jn [] (fun J0 =>
Lp [.int .i64] (fun (x : Int) w4 C0 =>
cond (decide ((x : Int) < (s.n : Int))) (
ixa s x 1 fun a1 =>
ldc (.int .u64) w4 a1 fun (v : Int) =>
bnd (wi (x + n1)) fun n6 =>
bnd (wi (x + n1)) fun n7 =>
ixa s1 n7 1 fun a2 =>
ldc (.int .u64) w4 a2 fun (v1 : Int) =>
shlK .u64 v n3 fun n8 =>
bnd (bits2 .or .u64 v1 n8) fun n9 =>
ixa s1 n6 1 fun a3 =>
stc w4 a3 (.int .u64 n9) fun w5 =>
Jn [] (fun J1 =>
cond (decide ((n3 : Int) > 0)) (
bnd (wi (x + n1)) fun n10 =>
bnd (wi (n10 + 1)) fun n11 =>
bnd (wu (64 - n3)) fun n12 =>
shrK .u64 v n12 fun n13 =>
ixa s1 n11 1 fun a4 =>
stc w5 a4 (.int .u64 n13) fun w6 =>
J1 w6) (
J1 w5)) fun  w7 =>
bnd (wi (x + 1)) fun n14 =>
C0 n14 w7) (
J0 w4)) 0 w3) fun  w8 =>
cl Pg F.limb_trim [s1.v] w8 [.one .slice] fun (s2 : Sl) w9 =>
R (s2.v) w9)
theorem Ct.limb_Shl {a : Sl} {n : Int} {w : TW} {X : Nat → Prop} {K : Tel (fl [.one .slice]) (TW → Prop)} (h : Sh.limb_Shl a n (Rt X [.one .slice] K w) w.here) : Ct Pg F.limb_Shl [a.v, .int .i64 n] w X [.one .slice] K :=
  cod (Sh.limb_Shl a n) 65 [] [] [(2, 0, []), (3, 8, [(30, .one (.int .i64))]), (1, 12, [])] Go.Proofs.Tryz.f116 (by kernel_rfl) (by kernel_rfl) (by kernel_rfl) (fun _ _ => by kernel_rfl) h
def Sh.limb_Sub (a : Sl) (b : Sl) (R : Value → TW → Prop) (w : TW) : Prop :=
cl Pg F.limb_trim [a.v] w [.one .slice] fun (s : Sl) w1 =>
cl Pg F.limb_trim [b.v] w1 [.one .slice] fun (s1 : Sl) w2 =>
cl Pg F.limb_Cmp [s.v, s1.v] w2 [.one (.int .i64)] fun (r : Int) w3 =>
cond (decide ((r : Int) < 0)) (
R (.tuple #[.slice none 0 0, .bool false]) w3) (
mks w3 (s.n : Int) (s.n : Int) T.uint64 8 [.int .u64 0] fun s2 w4 =>
Jn [] (fun J0 =>
Lp [.int .u64, .int .i64] (fun (c : Int) (x : Int) w5 C0 =>
cond (decide ((x : Int) < (s.n : Int))) (
Jn [.int .u64] (fun J1 =>
cond (decide ((x : Int) < (s1.n : Int))) (
ixa s1 x 1 fun a1 =>
ldc (.int .u64) w5 a1 fun (v : Int) =>
J1 v w5) (
J1 0 w5)) fun (y : Int) w6 =>
ixa s x 1 fun a2 =>
ldc (.int .u64) w6 a2 fun (v1 : Int) =>
sub64 v1 y c fun s3 c1 =>
ixa s2 x 1 fun a3 =>
stc w6 a3 (.int .u64 s3) fun w7 =>
bnd (wi (x + 1)) fun n =>
C0 c1 n w7) (
J0 w5)) 0 0 w4) fun  w8 =>
cl Pg F.limb_trim [s2.v] w8 [.one .slice] fun (s4 : Sl) w9 =>
R (.tuple #[s4.v, .bool true]) w9)
theorem Ct.limb_Sub {a : Sl} {b : Sl} {w : TW} {X : Nat → Prop} {K : Tel (fl [.one .slice, .one .bool]) (TW → Prop)} (h : Sh.limb_Sub a b (Rt X [.one .slice, .one .bool] K w) w.here) : Ct Pg F.limb_Sub [a.v, b.v] w X [.one .slice, .one .bool] K :=
  cod (Sh.limb_Sub a b) 50 [] [] [(2, 0, []), (3, 7, [(7, .one (.int .u64)), (23, .one (.int .i64))]), (1, 11, [(9, .one (.int .u64))])] Go.Proofs.Tryz.f117 (by kernel_rfl) (by kernel_rfl) (by kernel_rfl) (fun _ _ => by kernel_rfl) h
def Sh.limb_trim (a : Sl) (R : Value → TW → Prop) (w : TW) : Prop :=
cl Pg F.api_Nat_Len [a.v] w [.one (.int .i64)] fun (r : Int) w1 =>
slc a 0 r 1 fun s =>
R (s.v) w1
theorem Ct.limb_trim {a : Sl} {w : TW} {X : Nat → Prop} {K : Tel (fl [.one .slice]) (TW → Prop)} (h : Sh.limb_trim a (Rt X [.one .slice] K w) w.here) : Ct Pg F.limb_trim [a.v] w X [.one .slice] K :=
  cod (Sh.limb_trim a) 7 [] [] [] Go.Proofs.Tryz.f126 (by kernel_rfl) (by kernel_rfl) (by kernel_rfl) (fun _ _ => by kernel_rfl) h
def Sh.limb_within (n : Int) (most : Int) (R : Value → TW → Prop) (w : TW) : Prop :=
bnd (if (most : Int) < n then most else n) fun n1 =>
bnd (if (n1 : Int) > 0 then n1 else 0) fun n2 =>
R (.int .i64 n2) w
theorem Ct.limb_within {n : Int} {most : Int} {w : TW} {X : Nat → Prop} {K : Tel (fl [.one (.int .i64)]) (TW → Prop)} (h : Sh.limb_within n most (Rt X [.one (.int .i64)] K w) w.here) : Ct Pg F.limb_within [.int .i64 n, .int .i64 most] w X [.one (.int .i64)] K :=
  cod (Sh.limb_within n most) 9 [] [] [] Go.Proofs.Tryz.f141 (by kernel_rfl) (by kernel_rfl) (by kernel_rfl) (fun _ _ => by kernel_rfl) h
def Sh.limb_SubMul (a : Sl) (b : Sl) (y : Int) (R : Value → TW → Prop) (w : TW) : Prop :=
cl Pg F.limb_MulWord [b.v, .int .u64 y] w [.one .slice] fun (s : Sl) w1 =>
cl Pg F.limb_Sub [a.v, s.v] w1 [.one .slice, .one .bool] fun (s1 : Sl) (ok : Bool) w2 =>
R (.tuple #[s1.v, .bool ok]) w2
theorem Ct.limb_SubMul {a : Sl} {b : Sl} {y : Int} {w : TW} {X : Nat → Prop} {K : Tel (fl [.one .slice, .one .bool]) (TW → Prop)} (h : Sh.limb_SubMul a b y (Rt X [.one .slice, .one .bool] K w) w.here) : Ct Pg F.limb_SubMul [a.v, b.v, .int .u64 y] w X [.one .slice, .one .bool] K :=
  cod (Sh.limb_SubMul a b y) 15 [] [] [] Go.Proofs.Tryz.f150 (by kernel_rfl) (by kernel_rfl) (by kernel_rfl) (fun _ _ => by kernel_rfl) h
def Sh.limb_MulWord (a : Sl) (y : Int) (R : Value → TW → Prop) (w : TW) : Prop :=
cl Pg F.limb_AddMul [.slice none 0 0, a.v, .int .u64 y] w [.one .slice] fun (s : Sl) w1 =>
R (s.v) w1
theorem Ct.limb_MulWord {a : Sl} {y : Int} {w : TW} {X : Nat → Prop} {K : Tel (fl [.one .slice]) (TW → Prop)} (h : Sh.limb_MulWord a y (Rt X [.one .slice] K w) w.here) : Ct Pg F.limb_MulWord [a.v, .int .u64 y] w X [.one .slice] K :=
  cod (Sh.limb_MulWord a y) 8 [] [] [] Go.Proofs.Tryz.f151 (by kernel_rfl) (by kernel_rfl) (by kernel_rfl) (fun _ _ => by kernel_rfl) h
def Sh.limb_AddMul (a : Sl) (b : Sl) (y : Int) (R : Value → TW → Prop) (w : TW) : Prop :=
cl Pg F.limb_trim [a.v] w [.one .slice] fun (s : Sl) w1 =>
cl Pg F.limb_trim [b.v] w1 [.one .slice] fun (s1 : Sl) w2 =>
bnd (wi ((s1.n : Int) + 1)) fun n =>
bnd (if (n : Int) > (s.n : Int) then n else (s.n : Int)) fun n1 =>
bnd (wi (n1 + 1)) fun n2 =>
mks w2 n2 n2 T.uint64 8 [.int .u64 0] fun s2 w3 =>
cpy w3 T.uint64 s2 s fun _ w4 =>
Jn [] (fun J0 =>
Lp [.int .u64, .int .i64] (fun (c : Int) (x : Int) w5 C0 =>
cond (decide ((x : Int) < (s2.n : Int))) (
Jn [.bool] (fun J1 =>
cond (decide ((x : Int) ≥ (s1.n : Int))) (
J1 ((c : Int) == 0) w5) (
J1 false w5)) fun (x1 : Bool) w6 =>
cond x1 (
J0 w6) (
Jn [.int .u64, .int .u64] (fun J2 =>
cond (decide ((x : Int) < (s1.n : Int))) (
ixa s1 x 1 fun a1 =>
ldc (.int .u64) w6 a1 fun (v : Int) =>
cl Pg F.bits_Mul64 [.int .u64 v, .int .u64 y] w6 [.one (.int .u64), .one (.int .u64)] fun (r : Int) (r1 : Int) w7 =>
J2 r r1 w7) (
J2 0 0 w6)) fun (hi : Int) (lo : Int) w8 =>
add64 lo c 0 fun s3 c1 =>
bnd (wu (hi + c1)) fun n4 =>
ixa s2 x 1 fun a2 =>
ldc (.int .u64) w8 a2 fun (v1 : Int) =>
add64 v1 s3 0 fun s4 c2 =>
ixa s2 x 1 fun a3 =>
stc w8 a3 (.int .u64 s4) fun w9 =>
bnd (wu (n4 + c2)) fun n5 =>
bnd (wi (x + 1)) fun n6 =>
C0 n5 n6 w9)) (
J0 w5)) 0 0 w4) fun  w10 =>
cl Pg F.limb_trim [s2.v] w10 [.one .slice] fun (s5 : Sl) w11 =>
R (s5.v) w11
theorem Ct.limb_AddMul {a : Sl} {b : Sl} {y : Int} {w : TW} {X : Nat → Prop} {K : Tel (fl [.one .slice]) (TW → Prop)} (h : Sh.limb_AddMul a b y (Rt X [.one .slice] K w) w.here) : Ct Pg F.limb_AddMul [a.v, b.v, .int .u64 y] w X [.one .slice] K :=
  cod (Sh.limb_AddMul a b y) 82 [] [] [(2, 0, []), (3, 6, [(8, .one (.int .u64)), (31, .one (.int .i64))]), (0, 8, [(41, .one .bool)]), (1, 11, [(10, .one (.int .u64)), (11, .one (.int .u64))])] Go.Proofs.Tryz.f152 (by kernel_rfl) (by kernel_rfl) (by kernel_rfl) (fun _ _ => by kernel_rfl) h
def Sh.limb_DivWord (a : Sl) (y : Int) (R : Value → TW → Prop) (w : TW) : Prop :=
cond ((y : Int) == 0) (
R (.tuple #[.slice none 0 0, .int .u64 0, .int .i64 2]) w) (
cl Pg F.limb_trim [a.v] w [.one .slice] fun (s : Sl) w1 =>
mks w1 (s.n : Int) (s.n : Int) T.uint64 8 [.int .u64 0] fun s1 w2 =>
bnd (wi ((s.n : Int) - 1)) fun n =>
Jn [.int .u64] (fun J0 =>
Lp [.int .u64, .int .i64] (fun (r : Int) (i : Int) w3 C0 =>
cond (decide ((i : Int) ≥ 0)) (
ixa s i 1 fun a1 =>
ldc (.int .u64) w3 a1 fun (v : Int) =>
cl Pg F.bits_Div64 [.int .u64 r, .int .u64 v, .int .u64 y] w3 [.one (.int .u64), .one (.int .u64)] fun (r1 : Int) (r2 : Int) w4 =>
ixa s1 i 1 fun a2 =>
stc w4 a2 (.int .u64 r1) fun w5 =>
bnd (wi (i - 1)) fun n1 =>
C0 r2 n1 w5) (
J0 r w3)) 0 n w2) fun (r3 : Int) w6 =>
cl Pg F.limb_trim [s1.v] w6 [.one .slice] fun (s2 : Sl) w7 =>
R (.tuple #[s2.v, .int .u64 r3, .int .i64 0]) w7)
theorem Ct.limb_DivWord {a : Sl} {y : Int} {w : TW} {X : Nat → Prop} {K : Tel (fl [.one .slice, .one (.int .u64), .one (.int .i64)]) (TW → Prop)} (h : Sh.limb_DivWord a y (Rt X [.one .slice, .one (.int .u64), .one (.int .i64)] K w) w.here) : Ct Pg F.limb_DivWord [a.v, .int .u64 y] w X [.one .slice, .one (.int .u64), .one (.int .i64)] K :=
  cod (Sh.limb_DivWord a y) 40 [] [] [(2, 0, [(8, .one (.int .u64))]), (3, 7, [(8, .one (.int .u64)), (9, .one (.int .i64))])] Go.Proofs.Tryz.f154 (by kernel_rfl) (by kernel_rfl) (by kernel_rfl) (fun _ _ => by kernel_rfl) h
def Sh.limb_Join (k : Int) (parts : Sl) (R : Value → TW → Prop) (w : TW) : Prop :=
cl Pg F.limb_within [.int .i64 k, .int .i64 16384] w [.one (.int .i64)] fun (r : Int) w1 =>
Jn [.int .i64] (fun J0 =>
Lp [.int .i64, .int .i64] (fun (n : Int) (x : Int) w2 C0 =>
cond (decide ((x : Int) < (parts.n : Int))) (
ixa parts x 1 fun a =>
ldc (.slice) w2 a fun (v : Sl) =>
cl Pg F.api_Nat_Len [v.v] w2 [.one (.int .i64)] fun (r1 : Int) w3 =>
Jn [.int .i64] (fun J1 =>
cond (decide ((r1 : Int) > 0)) (
bnd (wi (r * x)) fun n1 =>
bnd (wi (n1 + r1)) fun n2 =>
bnd (if (n2 : Int) > n then n2 else n) fun n3 =>
J1 n3 w3) (
J1 n w3)) fun (n4 : Int) w4 =>
bnd (wi (x + 1)) fun n5 =>
C0 n4 n5 w4) (
J0 n w2)) 0 0 w1) fun (n6 : Int) w5 =>
bnd (wi (n6 + 2)) fun n7 =>
mks w5 n7 n7 T.uint64 8 [.int .u64 0] fun s w6 =>
Jn [] (fun J2 =>
Lp [.int .i64] (fun (x1 : Int) w7 C1 =>
cond (decide ((x1 : Int) < (parts.n : Int))) (
ixa parts x1 1 fun a1 =>
ldc (.slice) w7 a1 fun (v1 : Sl) =>
cl Pg F.limb_trim [v1.v] w7 [.one .slice] fun (s1 : Sl) w8 =>
Jn [] (fun J3 =>
Lp [.int .u64, .int .i64] (fun (c : Int) (j : Int) w9 C2 =>
Jn [.bool] (fun J4 =>
cond (decide ((j : Int) < (s1.n : Int))) (
J4 true w9) (
J4 (decide ((c : Int) > 0)) w9)) fun (x2 : Bool) w10 =>
cond x2 (
Jn [.int .u64] (fun J5 =>
cond (decide ((j : Int) < (s1.n : Int))) (
ixa s1 j 1 fun a2 =>
ldc (.int .u64) w10 a2 fun (v2 : Int) =>
J5 v2 w10) (
J5 0 w10)) fun (y : Int) w11 =>
bnd (wi (r * x1)) fun n8 =>
bnd (wi (n8 + j)) fun n9 =>
bnd (wi (r * x1)) fun n10 =>
bnd (wi (n10 + j)) fun n11 =>
ixa s n11 1 fun a3 =>
ldc (.int .u64) w11 a3 fun (v3 : Int) =>
add64 v3 y c fun s2 c1 =>
ixa s n9 1 fun a4 =>
stc w11 a4 (.int .u64 s2) fun w12 =>
bnd (wi (j + 1)) fun n12 =>
C2 c1 n12 w12) (
J3 w10)) 0 0 w8) fun  w13 =>
bnd (wi (x1 + 1)) fun n13 =>
C1 n13 w13) (
J2 w7)) 0 w6) fun  w14 =>
cl Pg F.limb_trim [s.v] w14 [.one .slice] fun (s3 : Sl) w15 =>
R (s3.v) w15
theorem Ct.limb_Join {k : Int} {parts : Sl} {w : TW} {X : Nat → Prop} {K : Tel (fl [.one .slice]) (TW → Prop)} (h : Sh.limb_Join k parts (Rt X [.one .slice] K w) w.here) : Ct Pg F.limb_Join [.int .i64 k, parts.v] w X [.one .slice] K :=
  cod (Sh.limb_Join k parts) 90 [] [] [(2, 0, [(5, .one (.int .i64))]), (3, 4, [(5, .one (.int .i64)), (19, .one (.int .i64))]), (1, 8, [(5, .one (.int .i64))]), (2, 2, []), (3, 12, [(41, .one (.int .i64))]), (2, 4, []), (3, 17, [(12, .one (.int .u64)), (13, .one (.int .i64))]), (0, 17, [(55, .one .bool)]), (1, 21, [(14, .one (.int .u64))])] Go.Proofs.Tryz.f160 (by kernel_rfl) (by kernel_rfl) (by kernel_rfl) (fun _ _ => by kernel_rfl) h
def Sh.limb_Split (a : Sl) (k : Int) (R : Value → TW → Prop) (w : TW) : Prop :=
cl Pg F.limb_within [.int .i64 k, .int .i64 16384] w [.one (.int .i64)] fun (r : Int) w1 =>
cl Pg F.limb_trim [a.v] w1 [.one .slice] fun (s : Sl) w2 =>
cond (decide ((r : Int) ≥ (s.n : Int))) (
apd w2 T.uint64 1 8 Sl.nil s fun s1 w3 =>
R (.tuple #[s1.v, .slice none 0 0]) w3) (
slc s 0 r 1 fun s2 =>
slc s r (s.n : Nat) 1 fun s3 =>
cl Pg F.limb_Norm [s2.v] w2.drew [.one .slice] fun (s4 : Sl) w4 =>
apd w4 T.uint64 1 8 Sl.nil s3 fun s5 w5 =>
R (.tuple #[s4.v, s5.v]) w5)
theorem Ct.limb_Split {a : Sl} {k : Int} {w : TW} {X : Nat → Prop} {K : Tel (fl [.one .slice, .one .slice]) (TW → Prop)} (h : Sh.limb_Split a k (Rt X [.one .slice, .one .slice] K w) w.here) : Ct Pg F.limb_Split [a.v, .int .i64 k] w X [.one .slice, .one .slice] K :=
  cod (Sh.limb_Split a k) 24 [] [] [] Go.Proofs.Tryz.f175 (by kernel_rfl) (by kernel_rfl) (by kernel_rfl) (fun _ _ => by kernel_rfl) h
def Sh.limb_Sum (l : Sl) (R : Value → TW → Prop) (w : TW) : Prop :=
cl Pg F.limb_Join [.int .i64 0, l.v] w [.one .slice] fun (s : Sl) w1 =>
R (s.v) w1
theorem Ct.limb_Sum {l : Sl} {w : TW} {X : Nat → Prop} {K : Tel (fl [.one .slice]) (TW → Prop)} (h : Sh.limb_Sum l (Rt X [.one .slice] K w) w.here) : Ct Pg F.limb_Sum [l.v] w X [.one .slice] K :=
  cod (Sh.limb_Sum l) 5 [] [] [] Go.Proofs.Tryz.f196 (by kernel_rfl) (by kernel_rfl) (by kernel_rfl) (fun _ _ => by kernel_rfl) h
end Go.Proofs.YticehedkalheiaaGreatDoor.Zg
end

section
set_option maxRecDepth 100000
namespace Go.Proofs.YticehedkalheiaaGreatDoor.Zg
def Sh.meter_Meter_Spend (m : Option Addr) (n : Int) (R : Value → TW → Prop) (w : TW) : Prop :=
Jn [] (fun J0 =>
cond (decide ((n : Int) > 0)) (
nck m fun a =>
ldc (.int .i64) w a fun (v : Int) =>
bnd (wi (v + n)) fun n1 =>
nck m fun a1 =>
stc w a1 (.int .i64 n1) fun w1 =>
J0 w1) (
J0 w)) fun  w2 =>
nck m fun a2 =>
ldc (.int .i64) w2 a2 fun (v1 : Int) =>
R (.int .i64 v1) w2
theorem Ct.meter_Meter_Spend {m : Option Addr} {n : Int} {w : TW} {X : Nat → Prop} {K : Tel (fl [.one (.int .i64)]) (TW → Prop)} (h : Sh.meter_Meter_Spend m n (Rt X [.one (.int .i64)] K w) w.here) : Ct Pg F.meter_Meter_Spend [.pointer m, .int .i64 n] w X [.one (.int .i64)] K :=
  cod (Sh.meter_Meter_Spend m n) 20 [] [] [(1, 2, [])] Go.Proofs.Tryz.f153 (by kernel_rfl) (by kernel_rfl) (by kernel_rfl) (fun _ _ => by kernel_rfl) h
def Sh.meter_Meter_Enter (m : Option Addr) (R : Value → TW → Prop) (w : TW) : Prop :=
nck m fun a =>
ldc (.int .i64) w (a.add 1) fun (v : Int) =>
bnd (wi (v + 1)) fun n =>
nck m fun a1 =>
stc w (a1.add 1) (.int .i64 n) fun w1 =>
nck m fun a2 =>
ldc (.int .i64) w1.drew (a2.add 2) fun (v1 : Int) =>
nck m fun a3 =>
ldc (.int .i64) w1.drew (a3.add 1) fun (v2 : Int) =>
bnd (if (v2 : Int) > v1 then v2 else v1) fun n1 =>
nck m fun a4 =>
stc w1.drew (a4.add 2) (.int .i64 n1) fun w2 =>
nck m fun a5 =>
ldc (.int .i64) w2 (a5.add 1) fun (v3 : Int) =>
R (.int .i64 v3) w2
theorem Ct.meter_Meter_Enter {m : Option Addr} {w : TW} {X : Nat → Prop} {K : Tel (fl [.one (.int .i64)]) (TW → Prop)} (h : Sh.meter_Meter_Enter m (Rt X [.one (.int .i64)] K w) w.here) : Ct Pg F.meter_Meter_Enter [.pointer m] w X [.one (.int .i64)] K :=
  cod (Sh.meter_Meter_Enter m) 26 [] [] [] Go.Proofs.Tryz.f174 (by kernel_rfl) (by kernel_rfl) (by kernel_rfl) (fun _ _ => by kernel_rfl) h
def Sh.meter_Meter_Leave (m : Option Addr) (R : Value → TW → Prop) (w : TW) : Prop :=
nck m fun a =>
ldc (.int .i64) w (a.add 1) fun (v : Int) =>
Jn [] (fun J0 =>
cond (decide ((v : Int) > 0)) (
nck m fun a1 =>
ldc (.int .i64) w (a1.add 1) fun (v1 : Int) =>
bnd (wi (v1 - 1)) fun n =>
nck m fun a2 =>
stc w (a2.add 1) (.int .i64 n) fun w1 =>
J0 w1) (
J0 w)) fun  w2 =>
nck m fun a3 =>
ldc (.int .i64) w2 (a3.add 1) fun (v2 : Int) =>
R (.int .i64 v2) w2
theorem Ct.meter_Meter_Leave {m : Option Addr} {w : TW} {X : Nat → Prop} {K : Tel (fl [.one (.int .i64)]) (TW → Prop)} (h : Sh.meter_Meter_Leave m (Rt X [.one (.int .i64)] K w) w.here) : Ct Pg F.meter_Meter_Leave [.pointer m] w X [.one (.int .i64)] K :=
  cod (Sh.meter_Meter_Leave m) 19 [] [] [(1, 2, [])] Go.Proofs.Tryz.f177 (by kernel_rfl) (by kernel_rfl) (by kernel_rfl) (fun _ _ => by kernel_rfl) h
end Go.Proofs.YticehedkalheiaaGreatDoor.Zg
end

section
set_option maxRecDepth 100000
namespace Go.Proofs.YticehedkalheiaaGreatDoor.Zg
def Sh.modw_New (p : Int) (R : Value → TW → Prop) (w : TW) : Prop :=
Jn [.bool] (fun J0 =>
cond (decide ((p : Int) < 3)) (
J0 true w) (
remK p 2 fun n =>
cond ((n : Int) == 0) (
J0 true w) (
J0 (decide ((p : Int) ≥ 4611686018427387904)) w))) fun (x : Bool) w1 =>
cond x (
R (.tuple #[.pointer none, .int .i64 3]) w1) (
Jn [.int .u64] (fun J1 =>
Lp [.int .u64, .int .i64] (fun (inv : Int) (x1 : Int) w2 C0 =>
cond (decide ((x1 : Int) < 6)) (
bnd (wu (p * inv)) fun n1 =>
bnd (wu (2 - n1)) fun n2 =>
bnd (wu (inv * n2)) fun n3 =>
bnd (wi (x1 + 1)) fun n4 =>
C0 n3 n4 w2) (
J1 inv w2)) p 0 w1) fun (inv1 : Int) w3 =>
bnd (wu (0 - inv1)) fun n5 =>
nwb w3 [.int .u64 p, .int .u64 n5, .int .u64 0, .int .u64 0] T.modw_Mod fun b w4 =>
cl Pg F.bits_Div64 [.int .u64 1, .int .u64 0, .int .u64 p] w4 [.one (.int .u64), .one (.int .u64)] fun (_ : Int) (r1 : Int) w5 =>
stc w5 (Addr.add ⟨b, 0, none⟩ 2) (.int .u64 r1) fun w6 =>
ldc (.int .u64) w6.drew (Addr.add ⟨b, 0, none⟩ 2) fun (v : Int) =>
ldc (.int .u64) w6.drew (Addr.add ⟨b, 0, none⟩ 2) fun (v1 : Int) =>
cl Pg F.modw_Mod_mul [.pointer (some ⟨b, 0, none⟩), .int .u64 v, .int .u64 v1] w6.drew [.one (.int .u64)] fun (r2 : Int) w7 =>
stc w7 (Addr.add ⟨b, 0, none⟩ 3) (.int .u64 r2) fun w8 =>
R (.tuple #[.pointer (some ⟨b, 0, none⟩), .int .i64 0]) w8)
theorem Ct.modw_New {p : Int} {w : TW} {X : Nat → Prop} {K : Tel (fl [.one .ptr, .one (.int .i64)]) (TW → Prop)} (h : Sh.modw_New p (Rt X [.one .ptr, .one (.int .i64)] K w) w.here) : Ct Pg F.modw_New [.int .u64 p] w X [.one .ptr, .one (.int .i64)] K :=
  cod (Sh.modw_New p) 54 [] [] [(0, 1, [(16, .one .bool)]), (2, 0, [(4, .one (.int .u64))]), (3, 5, [(4, .one (.int .u64)), (18, .one (.int .i64))])] Go.Proofs.Tryz.f214 (by kernel_rfl) (by kernel_rfl) (by kernel_rfl) (fun _ _ => by kernel_rfl) h
def Sh.modw_Mod_Inv (m : Option Addr) (a : Int) (R : Value → TW → Prop) (w : TW) : Prop :=
nck m fun a1 =>
ldc (.int .u64) w.drew a1 fun (v : Int) =>
nck m fun a2 =>
ldc (.int .u64) w.drew a2 fun (v1 : Int) =>
remK a v1 fun n =>
Jn [.int .u64, .int .u64] (fun J0 =>
Lp [.int .u64, .int .u64, .int .u64, .int .u64] (fun (r : Int) (s : Int) (x : Int) (y : Int) w1 C0 =>
cond (decide ((s : Int) > 0)) (
divK .u64 r s fun n1 =>
bnd (wu (n1 * s)) fun n2 =>
bnd (wu (r - n2)) fun n3 =>
nck m fun a3 =>
ldc (.int .u64) w1 a3 fun (v2 : Int) =>
remK n1 v2 fun n4 =>
cl Pg F.modw_Mod_mul [.pointer m, .int .u64 n4, .int .u64 y] w1 [.one (.int .u64)] fun (r1 : Int) w2 =>
cl Pg F.modw_Mod_sub [.pointer m, .int .u64 x, .int .u64 r1] w2 [.one (.int .u64)] fun (r2 : Int) w3 =>
C0 s n3 y r2 w3) (
J0 r x w1)) v n 0 1 w.drew) fun (r3 : Int) (x1 : Int) w4 =>
cond ((r3 : Int) != 1) (
R (.tuple #[.int .u64 0, .bool false]) w4) (
R (.tuple #[.int .u64 x1, .bool true]) w4)
theorem Ct.modw_Mod_Inv {m : Option Addr} {a : Int} {w : TW} {X : Nat → Prop} {K : Tel (fl [.one (.int .u64), .one .bool]) (TW → Prop)} (h : Sh.modw_Mod_Inv m a (Rt X [.one (.int .u64), .one .bool] K w) w.here) : Ct Pg F.modw_Mod_Inv [.pointer m, .int .u64 a] w X [.one (.int .u64), .one .bool] K :=
  cod (Sh.modw_Mod_Inv m a) 48 [] [] [(2, 0, [(6, .one (.int .u64)), (8, .one (.int .u64))]), (3, 3, [(6, .one (.int .u64)), (7, .one (.int .u64)), (8, .one (.int .u64)), (9, .one (.int .u64))])] Go.Proofs.Tryz.f215 (by kernel_rfl) (by kernel_rfl) (by kernel_rfl) (fun _ _ => by kernel_rfl) h
def Sh.modw_Mod_Mul (m : Option Addr) (a : Int) (b : Int) (R : Value → TW → Prop) (w : TW) : Prop :=
nck m fun a1 =>
ldc (.int .u64) w.drew a1 fun (v : Int) =>
remK a v fun n =>
nck m fun a2 =>
ldc (.int .u64) w.drew a2 fun (v1 : Int) =>
remK b v1 fun n1 =>
cl Pg F.modw_Mod_mul [.pointer m, .int .u64 n, .int .u64 n1] w.drew [.one (.int .u64)] fun (r : Int) w1 =>
hld w1 [(a2, .int .u64 v1), (a1, .int .u64 v)] <|
R (.int .u64 r) w1
theorem Ct.modw_Mod_Mul {m : Option Addr} {a : Int} {b : Int} {w : TW} {X : Nat → Prop} {K : Tel (fl [.one (.int .u64)]) (TW → Prop)} (h : Sh.modw_Mod_Mul m a b (Rt X [.one (.int .u64)] K w) w.here) : Ct Pg F.modw_Mod_Mul [.pointer m, .int .u64 a, .int .u64 b] w X [.one (.int .u64)] K :=
  cod (Sh.modw_Mod_Mul m a b) 21 [] [] [] Go.Proofs.Tryz.f216 (by kernel_rfl) (by kernel_rfl) (by kernel_rfl) (fun _ _ => by kernel_rfl) h
def Sh.modw_Mod_Sub (m : Option Addr) (a : Int) (b : Int) (R : Value → TW → Prop) (w : TW) : Prop :=
nck m fun a1 =>
ldc (.int .u64) w.drew a1 fun (v : Int) =>
remK a v fun n =>
nck m fun a2 =>
ldc (.int .u64) w.drew a2 fun (v1 : Int) =>
remK b v1 fun n1 =>
cl Pg F.modw_Mod_sub [.pointer m, .int .u64 n, .int .u64 n1] w.drew [.one (.int .u64)] fun (r : Int) w1 =>
hld w1 [(a2, .int .u64 v1), (a1, .int .u64 v)] <|
R (.int .u64 r) w1
theorem Ct.modw_Mod_Sub {m : Option Addr} {a : Int} {b : Int} {w : TW} {X : Nat → Prop} {K : Tel (fl [.one (.int .u64)]) (TW → Prop)} (h : Sh.modw_Mod_Sub m a b (Rt X [.one (.int .u64)] K w) w.here) : Ct Pg F.modw_Mod_Sub [.pointer m, .int .u64 a, .int .u64 b] w X [.one (.int .u64)] K :=
  cod (Sh.modw_Mod_Sub m a b) 21 [] [] [] Go.Proofs.Tryz.f219 (by kernel_rfl) (by kernel_rfl) (by kernel_rfl) (fun _ _ => by kernel_rfl) h
def Sh.modw_Mod_Add (m : Option Addr) (a : Int) (b : Int) (R : Value → TW → Prop) (w : TW) : Prop :=
nck m fun a1 =>
ldc (.int .u64) w.drew a1 fun (v : Int) =>
remK a v fun n =>
nck m fun a2 =>
ldc (.int .u64) w.drew a2 fun (v1 : Int) =>
remK b v1 fun n1 =>
cl Pg F.modw_Mod_add [.pointer m, .int .u64 n, .int .u64 n1] w.drew [.one (.int .u64)] fun (r : Int) w1 =>
hld w1 [(a2, .int .u64 v1), (a1, .int .u64 v)] <|
R (.int .u64 r) w1
theorem Ct.modw_Mod_Add {m : Option Addr} {a : Int} {b : Int} {w : TW} {X : Nat → Prop} {K : Tel (fl [.one (.int .u64)]) (TW → Prop)} (h : Sh.modw_Mod_Add m a b (Rt X [.one (.int .u64)] K w) w.here) : Ct Pg F.modw_Mod_Add [.pointer m, .int .u64 a, .int .u64 b] w X [.one (.int .u64)] K :=
  cod (Sh.modw_Mod_Add m a b) 21 [] [] [] Go.Proofs.Tryz.f220 (by kernel_rfl) (by kernel_rfl) (by kernel_rfl) (fun _ _ => by kernel_rfl) h
def Sh.modw_Mod_mul (m : Option Addr) (a : Int) (b : Int) (R : Value → TW → Prop) (w : TW) : Prop :=
cl Pg F.bits_Mul64 [.int .u64 a, .int .u64 b] w [.one (.int .u64), .one (.int .u64)] fun (r : Int) (r1 : Int) w1 =>
nck m fun a1 =>
ldc (.int .u64) w1 a1 fun (v : Int) =>
cl Pg F.bits_Div64 [.int .u64 r, .int .u64 r1, .int .u64 v] w1 [.one (.int .u64), .one (.int .u64)] fun (_ : Int) (r3 : Int) w2 =>
R (.int .u64 r3) w2
theorem Ct.modw_Mod_mul {m : Option Addr} {a : Int} {b : Int} {w : TW} {X : Nat → Prop} {K : Tel (fl [.one (.int .u64)]) (TW → Prop)} (h : Sh.modw_Mod_mul m a b (Rt X [.one (.int .u64)] K w) w.here) : Ct Pg F.modw_Mod_mul [.pointer m, .int .u64 a, .int .u64 b] w X [.one (.int .u64)] K :=
  cod (Sh.modw_Mod_mul m a b) 28 [] [] [] Go.Proofs.Tryz.f224 (by kernel_rfl) (by kernel_rfl) (by kernel_rfl) (fun _ _ => by kernel_rfl) h
def Sh.modw_Mod_sub (m : Option Addr) (a : Int) (b : Int) (R : Value → TW → Prop) (w : TW) : Prop :=
cond (decide ((a : Int) ≥ b)) (
bnd (wu (a - b)) fun n =>
R (.int .u64 n) w) (
nck m fun a1 =>
ldc (.int .u64) w a1 fun (v : Int) =>
bnd (wu (a + v)) fun n1 =>
bnd (wu (n1 - b)) fun n2 =>
R (.int .u64 n2) w)
theorem Ct.modw_Mod_sub {m : Option Addr} {a : Int} {b : Int} {w : TW} {X : Nat → Prop} {K : Tel (fl [.one (.int .u64)]) (TW → Prop)} (h : Sh.modw_Mod_sub m a b (Rt X [.one (.int .u64)] K w) w.here) : Ct Pg F.modw_Mod_sub [.pointer m, .int .u64 a, .int .u64 b] w X [.one (.int .u64)] K :=
  cod (Sh.modw_Mod_sub m a b) 21 [] [] [] Go.Proofs.Tryz.f225 (by kernel_rfl) (by kernel_rfl) (by kernel_rfl) (fun _ _ => by kernel_rfl) h
def Sh.modw_Mod_Pow (m : Option Addr) (a : Int) (n : Int) (R : Value → TW → Prop) (w : TW) : Prop :=
nck m fun a1 =>
ldc (.int .u64) w.drew a1 fun (v : Int) =>
remK a v fun n1 =>
nck m fun a2 =>
ldc (.int .u64) w.drew (a2.add 2) fun (v1 : Int) =>
cl Pg F.modw_Mod_mont [.pointer m, .int .u64 n1] w.drew [.one (.int .u64)] fun (r : Int) w1 =>
hld w1 [((a2.add 2), .int .u64 v1), (a1, .int .u64 v)] <|
Jn [.int .u64] (fun J0 =>
Lp [.int .u64, .int .u64, .int .u64] (fun (n2 : Int) (x : Int) (out : Int) w2 C0 =>
cond (decide ((n2 : Int) > 0)) (
remK n2 2 fun n3 =>
Jn [.int .u64] (fun J1 =>
cond ((n3 : Int) == 1) (
cl Pg F.bits_Mul64 [.int .u64 out, .int .u64 x] w2 [.one (.int .u64), .one (.int .u64)] fun (r1 : Int) (r2 : Int) w3 =>
cl Pg F.modw_Mod_redc [.pointer m, .int .u64 r1, .int .u64 r2] w3 [.one (.int .u64)] fun (r3 : Int) w4 =>
J1 r3 w4) (
J1 out w2)) fun (out1 : Int) w5 =>
cl Pg F.bits_Mul64 [.int .u64 x, .int .u64 x] w5 [.one (.int .u64), .one (.int .u64)] fun (r4 : Int) (r5 : Int) w6 =>
cl Pg F.modw_Mod_redc [.pointer m, .int .u64 r4, .int .u64 r5] w6 [.one (.int .u64)] fun (r6 : Int) w7 =>
divK .u64 n2 2 fun n4 =>
C0 n4 r6 out1 w7) (
J0 out w2)) n r v1 w1) fun (out2 : Int) w8 =>
cl Pg F.modw_Mod_redc [.pointer m, .int .u64 0, .int .u64 out2] w8 [.one (.int .u64)] fun (r7 : Int) w9 =>
R (.int .u64 r7) w9
theorem Ct.modw_Mod_Pow {m : Option Addr} {a : Int} {n : Int} {w : TW} {X : Nat → Prop} {K : Tel (fl [.one (.int .u64)]) (TW → Prop)} (h : Sh.modw_Mod_Pow m a n (Rt X [.one (.int .u64)] K w) w.here) : Ct Pg F.modw_Mod_Pow [.pointer m, .int .u64 a, .int .u64 n] w X [.one (.int .u64)] K :=
  cod (Sh.modw_Mod_Pow m a n) 45 [] [] [(2, 0, [(8, .one (.int .u64))]), (3, 2, [(2, .one (.int .u64)), (7, .one (.int .u64)), (8, .one (.int .u64))]), (1, 4, [(8, .one (.int .u64))])] Go.Proofs.Tryz.f227 (by kernel_rfl) (by kernel_rfl) (by kernel_rfl) (fun _ _ => by kernel_rfl) h
def Sh.modw_Mod_Shoup (m : Option Addr) (y : Int) (R : Value → TW → Prop) (w : TW) : Prop :=
nck m fun a =>
ldc (.int .u64) w.drew a fun (v : Int) =>
remK y v fun n =>
nck m fun a1 =>
ldc (.int .u64) w.drew a1 fun (v1 : Int) =>
cl Pg F.bits_Div64 [.int .u64 n, .int .u64 0, .int .u64 v1] w.drew [.one (.int .u64), .one (.int .u64)] fun (r : Int) (_ : Int) w1 =>
hld w1 [(a, .int .u64 v)] <|
R (.int .u64 r) w1
theorem Ct.modw_Mod_Shoup {m : Option Addr} {y : Int} {w : TW} {X : Nat → Prop} {K : Tel (fl [.one (.int .u64)]) (TW → Prop)} (h : Sh.modw_Mod_Shoup m y (Rt X [.one (.int .u64)] K w) w.here) : Ct Pg F.modw_Mod_Shoup [.pointer m, .int .u64 y] w X [.one (.int .u64)] K :=
  cod (Sh.modw_Mod_Shoup m y) 22 [] [] [] Go.Proofs.Tryz.f228 (by kernel_rfl) (by kernel_rfl) (by kernel_rfl) (fun _ _ => by kernel_rfl) h
def Sh.modw_Mod_add (m : Option Addr) (a : Int) (b : Int) (R : Value → TW → Prop) (w : TW) : Prop :=
bnd (wu (a + b)) fun n =>
nck m fun a1 =>
ldc (.int .u64) w a1 fun (v : Int) =>
Jn [.int .u64] (fun J0 =>
cond (decide ((n : Int) ≥ v)) (
nck m fun a2 =>
ldc (.int .u64) w a2 fun (v1 : Int) =>
bnd (wu (n - v1)) fun n1 =>
J0 n1 w) (
J0 n w)) fun (s : Int) w1 =>
R (.int .u64 s) w1
theorem Ct.modw_Mod_add {m : Option Addr} {a : Int} {b : Int} {w : TW} {X : Nat → Prop} {K : Tel (fl [.one (.int .u64)]) (TW → Prop)} (h : Sh.modw_Mod_add m a b (Rt X [.one (.int .u64)] K w) w.here) : Ct Pg F.modw_Mod_add [.pointer m, .int .u64 a, .int .u64 b] w X [.one (.int .u64)] K :=
  cod (Sh.modw_Mod_add m a b) 24 [] [] [(1, 3, [(7, .one (.int .u64))])] Go.Proofs.Tryz.f229 (by kernel_rfl) (by kernel_rfl) (by kernel_rfl) (fun _ _ => by kernel_rfl) h
def Sh.modw_Mod_mont (m : Option Addr) (a : Int) (R : Value → TW → Prop) (w : TW) : Prop :=
nck m fun a1 =>
ldc (.int .u64) w (a1.add 3) fun (v : Int) =>
cl Pg F.bits_Mul64 [.int .u64 a, .int .u64 v] w [.one (.int .u64), .one (.int .u64)] fun (r : Int) (r1 : Int) w1 =>
cl Pg F.modw_Mod_redc [.pointer m, .int .u64 r, .int .u64 r1] w1 [.one (.int .u64)] fun (r2 : Int) w2 =>
R (.int .u64 r2) w2
theorem Ct.modw_Mod_mont {m : Option Addr} {a : Int} {w : TW} {X : Nat → Prop} {K : Tel (fl [.one (.int .u64)]) (TW → Prop)} (h : Sh.modw_Mod_mont m a (Rt X [.one (.int .u64)] K w) w.here) : Ct Pg F.modw_Mod_mont [.pointer m, .int .u64 a] w X [.one (.int .u64)] K :=
  cod (Sh.modw_Mod_mont m a) 15 [] [] [] Go.Proofs.Tryz.f234 (by kernel_rfl) (by kernel_rfl) (by kernel_rfl) (fun _ _ => by kernel_rfl) h
def Sh.modw_Mod_redc (m : Option Addr) (hi : Int) (lo : Int) (R : Value → TW → Prop) (w : TW) : Prop :=
nck m fun a =>
ldc (.int .u64) w (a.add 1) fun (v : Int) =>
bnd (wu (lo * v)) fun n =>
nck m fun a1 =>
ldc (.int .u64) w a1 fun (v1 : Int) =>
cl Pg F.bits_Mul64 [.int .u64 n, .int .u64 v1] w [.one (.int .u64), .one (.int .u64)] fun (r : Int) (r1 : Int) w1 =>
add64 lo r1 0 fun _ c =>
add64 hi r c fun s1 _ =>
nck m fun a2 =>
ldc (.int .u64) w1 a2 fun (v2 : Int) =>
Jn [.int .u64] (fun J0 =>
cond (decide ((s1 : Int) ≥ v2)) (
nck m fun a3 =>
ldc (.int .u64) w1 a3 fun (v3 : Int) =>
bnd (wu (s1 - v3)) fun n1 =>
J0 n1 w1) (
J0 s1 w1)) fun (s2 : Int) w2 =>
R (.int .u64 s2) w2
theorem Ct.modw_Mod_redc {m : Option Addr} {hi : Int} {lo : Int} {w : TW} {X : Nat → Prop} {K : Tel (fl [.one (.int .u64)]) (TW → Prop)} (h : Sh.modw_Mod_redc m hi lo (Rt X [.one (.int .u64)] K w) w.here) : Ct Pg F.modw_Mod_redc [.pointer m, .int .u64 hi, .int .u64 lo] w X [.one (.int .u64)] K :=
  cod (Sh.modw_Mod_redc m hi lo) 55 [] [] [(1, 6, [(12, .one (.int .u64))])] Go.Proofs.Tryz.f235 (by kernel_rfl) (by kernel_rfl) (by kernel_rfl) (fun _ _ => by kernel_rfl) h
def Sh.modw_Mod_Red (m : Option Addr) (a : Int) (R : Value → TW → Prop) (w : TW) : Prop :=
nck m fun a1 =>
ldc (.int .u64) w a1 fun (v : Int) =>
remK a v fun n =>
R (.int .u64 n) w
theorem Ct.modw_Mod_Red {m : Option Addr} {a : Int} {w : TW} {X : Nat → Prop} {K : Tel (fl [.one (.int .u64)]) (TW → Prop)} (h : Sh.modw_Mod_Red m a (Rt X [.one (.int .u64)] K w) w.here) : Ct Pg F.modw_Mod_Red [.pointer m, .int .u64 a] w X [.one (.int .u64)] K :=
  cod (Sh.modw_Mod_Red m a) 11 [] [] [] Go.Proofs.Tryz.f236 (by kernel_rfl) (by kernel_rfl) (by kernel_rfl) (fun _ _ => by kernel_rfl) h
def Sh.modw_Mod_P (m : Option Addr) (R : Value → TW → Prop) (w : TW) : Prop :=
nck m fun a =>
ldc (.int .u64) w a fun (v : Int) =>
R (.int .u64 v) w
theorem Ct.modw_Mod_P {m : Option Addr} {w : TW} {X : Nat → Prop} {K : Tel (fl [.one (.int .u64)]) (TW → Prop)} (h : Sh.modw_Mod_P m (Rt X [.one (.int .u64)] K w) w.here) : Ct Pg F.modw_Mod_P [.pointer m] w X [.one (.int .u64)] K :=
  cod (Sh.modw_Mod_P m) 7 [] [] [] Go.Proofs.Tryz.f238 (by kernel_rfl) (by kernel_rfl) (by kernel_rfl) (fun _ _ => by kernel_rfl) h
def Sh.modw_Mod_ShoupMul (m : Option Addr) (a : Int) (y : Int) (s : Int) (R : Value → TW → Prop) (w : TW) : Prop :=
nck m fun a1 =>
ldc (.int .u64) w.drew a1 fun (v : Int) =>
remK a v fun n =>
nck m fun a2 =>
ldc (.int .u64) w.drew a2 fun (v1 : Int) =>
remK y v1 fun n1 =>
cl Pg F.bits_Mul64 [.int .u64 n, .int .u64 s] w.drew [.one (.int .u64), .one (.int .u64)] fun (r : Int) (_ : Int) w1 =>
bnd (wu (n * n1)) fun n2 =>
nck m fun a3 =>
ldc (.int .u64) w1 a3 fun (v2 : Int) =>
bnd (wu (r * v2)) fun n3 =>
bnd (wu (n2 - n3)) fun n4 =>
nck m fun a4 =>
ldc (.int .u64) w1 a4 fun (v3 : Int) =>
Jn [.int .u64] (fun J0 =>
cond (decide ((n4 : Int) ≥ v3)) (
nck m fun a5 =>
ldc (.int .u64) w1 a5 fun (v4 : Int) =>
bnd (wu (n4 - v4)) fun n5 =>
J0 n5 w1) (
J0 n4 w1)) fun (r2 : Int) w2 =>
nck m fun a6 =>
ldc (.int .u64) w2 a6 fun (v5 : Int) =>
remK r2 v5 fun n6 =>
R (.int .u64 n6) w2
theorem Ct.modw_Mod_ShoupMul {m : Option Addr} {a : Int} {y : Int} {s : Int} {w : TW} {X : Nat → Prop} {K : Tel (fl [.one (.int .u64)]) (TW → Prop)} (h : Sh.modw_Mod_ShoupMul m a y s (Rt X [.one (.int .u64)] K w) w.here) : Ct Pg F.modw_Mod_ShoupMul [.pointer m, .int .u64 a, .int .u64 y, .int .u64 s] w X [.one (.int .u64)] K :=
  cod (Sh.modw_Mod_ShoupMul m a y s) 58 [] [] [(1, 5, [(11, .one (.int .u64))])] Go.Proofs.Tryz.f239 (by kernel_rfl) (by kernel_rfl) (by kernel_rfl) (fun _ _ => by kernel_rfl) h
end Go.Proofs.YticehedkalheiaaGreatDoor.Zg
end

section
set_option maxRecDepth 100000
namespace Go.Proofs.YticehedkalheiaaGreatDoor.Zg
def Sh.mul_Engine_Mul (e0 : Option Addr) (a : Sl) (b : Sl) (R : Value → TW → Prop) (w : TW) : Prop :=
cl Pg F.mul_words [a.v] w [.one .slice] fun (s : Sl) w1 =>
cl Pg F.mul_words [b.v] w1 [.one .slice] fun (s1 : Sl) w2 =>
cl Pg F.mul_Engine_times [.pointer e0, s.v, s1.v] w2 [.one .slice] fun (s2 : Sl) w3 =>
R (s2.v) w3
theorem Ct.mul_Engine_Mul {e0 : Option Addr} {a : Sl} {b : Sl} {w : TW} {X : Nat → Prop} {K : Tel (fl [.one .slice]) (TW → Prop)} (h : Sh.mul_Engine_Mul e0 a b (Rt X [.one .slice] K w) w.here) : Ct Pg F.mul_Engine_Mul [.pointer e0, a.v, b.v] w X [.one .slice] K :=
  cod (Sh.mul_Engine_Mul e0 a b) 13 [] [] [] Go.Proofs.Tryz.f69 (by kernel_rfl) (by kernel_rfl) (by kernel_rfl) (fun _ _ => by kernel_rfl) h
def Sh.mul_Engine_times (e0 : Option Addr) (a : Sl) (b : Sl) (R : Value → TW → Prop) (w : TW) : Prop :=
Jn [.bool] (fun J0 =>
cond (decide (((a.n : Int) : Int) > 16384)) (
J0 true w) (
J0 (decide (((b.n : Int) : Int) > 16384)) w)) fun (x : Bool) w1 =>
cond x (
cl Pg F.mul_Engine_long [.pointer e0, a.v, b.v] w1 [.one .slice] fun (s : Sl) w2 =>
R (s.v) w2) (
nck e0 fun a1 =>
ldc (.ptr) w1 a1 fun (v : Option Addr) =>
nck v fun a2 =>
ldc (.ptr) w1 a2 fun (v1 : Option Addr) =>
nck v1 fun a3 =>
ldc (.ptr) w1 a3 fun (v2 : Option Addr) =>
nck v2 fun a4 =>
ldc (.ptr) w1 a4 fun (v3 : Option Addr) =>
cl Pg F.table_Tune_Route [.pointer v3, .int .i64 (a.n : Int), .int .i64 (b.n : Int)] w1 [.one (.int .i64)] fun (r : Int) w3 =>
cl Pg F.mul_Engine_gone [.pointer e0, .int .i64 r, a.v, b.v] w3 [.one .slice, .one .bool] fun (s1 : Sl) (ok : Bool) w4 =>
cond (!ok) (
nck e0 fun a5 =>
ldc (.ptr) w4 a5 fun (v4 : Option Addr) =>
nck v4 fun a6 =>
ldc (.ptr) w4 a6 fun (v5 : Option Addr) =>
nck v5 fun a7 =>
ldc (.ptr) w4 a7 fun (v6 : Option Addr) =>
cl Pg F.school_Engine_Mul [.pointer v6, a.v, b.v] w4 [.one .slice] fun (s2 : Sl) w5 =>
R (s2.v) w5) (
R (s1.v) w4))
theorem Ct.mul_Engine_times {e0 : Option Addr} {a : Sl} {b : Sl} {w : TW} {X : Nat → Prop} {K : Tel (fl [.one .slice]) (TW → Prop)} (h : Sh.mul_Engine_times e0 a b (Rt X [.one .slice] K w) w.here) : Ct Pg F.mul_Engine_times [.pointer e0, a.v, b.v] w X [.one .slice] K :=
  cod (Sh.mul_Engine_times e0 a b) 62 [] [] [(0, 1, [(16, .one .bool)])] Go.Proofs.Tryz.f122 (by kernel_rfl) (by kernel_rfl) (by kernel_rfl) (fun _ _ => by kernel_rfl) h
def Sh.mul_words (a : Sl) (R : Value → TW → Prop) (w : TW) : Prop :=
cl Pg F.api_Nat_Len [a.v] w [.one (.int .i64)] fun (r : Int) w1 =>
slc a 0 r 1 fun s =>
R (s.v) w1
theorem Ct.mul_words {a : Sl} {w : TW} {X : Nat → Prop} {K : Tel (fl [.one .slice]) (TW → Prop)} (h : Sh.mul_words a (Rt X [.one .slice] K w) w.here) : Ct Pg F.mul_words [a.v] w X [.one .slice] K :=
  cod (Sh.mul_words a) 7 [] [] [] Go.Proofs.Tryz.f123 (by kernel_rfl) (by kernel_rfl) (by kernel_rfl) (fun _ _ => by kernel_rfl) h
def Sh.mul_Engine_long (e0 : Option Addr) (a : Sl) (b : Sl) (R : Value → TW → Prop) (w : TW) : Prop :=
cl Pg F.mul_Engine_pieces [.pointer e0, a.v, b.v, .int .i64 16384] w [.one .slice] fun (s : Sl) w1 =>
R (s.v) w1
theorem Ct.mul_Engine_long {e0 : Option Addr} {a : Sl} {b : Sl} {w : TW} {X : Nat → Prop} {K : Tel (fl [.one .slice]) (TW → Prop)} (h : Sh.mul_Engine_long e0 a b (Rt X [.one .slice] K w) w.here) : Ct Pg F.mul_Engine_long [.pointer e0, a.v, b.v] w X [.one .slice] K :=
  cod (Sh.mul_Engine_long e0 a b) 11 [] [] [] Go.Proofs.Tryz.f143 (by kernel_rfl) (by kernel_rfl) (by kernel_rfl) (fun _ _ => by kernel_rfl) h
def Sh.mul_Engine_gone (e0 : Option Addr) (route : Int) (a : Sl) (b : Sl) (R : Value → TW → Prop) (w : TW) : Prop :=
cond ((route : Int) == 0) (
R (.tuple #[.slice none 0 0, .bool true]) w) (
cond ((route : Int) == 1) (
nck e0 fun a1 =>
ldc (.ptr) w a1 fun (v : Option Addr) =>
nck v fun a2 =>
ldc (.ptr) w a2 fun (v1 : Option Addr) =>
nck v1 fun a3 =>
ldc (.ptr) w a3 fun (v2 : Option Addr) =>
cl Pg F.school_Engine_Mul [.pointer v2, a.v, b.v] w [.one .slice] fun (s : Sl) w1 =>
R (.tuple #[s.v, .bool true]) w1) (
cond ((route : Int) == 2) (
cl Pg F.mul_Engine_block [.pointer e0, a.v, b.v] w [.one .slice] fun (s1 : Sl) w2 =>
R (.tuple #[s1.v, .bool true]) w2) (
cond ((route : Int) == 3) (
nck e0 fun a4 =>
ldc (.ptr) w a4 fun (v3 : Option Addr) =>
nck v3 fun a5 =>
ldc (.ptr) w a5 fun (v4 : Option Addr) =>
cl Pg F.kara_Engine_Kara [.pointer v4, a.v, b.v, .func (.func F.mul_Engine_times) #[.pointer e0] #[]] w [.one .slice, .one .bool] fun (s2 : Sl) (ok : Bool) w3 =>
R (.tuple #[s2.v, .bool ok]) w3) (
cond ((route : Int) == 4) (
nck e0 fun a6 =>
ldc (.ptr) w a6 fun (v5 : Option Addr) =>
cl Pg F.toom_Engine_Toom [.pointer v5, a.v, b.v, .func (.func F.mul_Engine_times) #[.pointer e0] #[]] w [.one .slice, .one .bool] fun (s3 : Sl) (ok1 : Bool) w4 =>
R (.tuple #[s3.v, .bool ok1]) w4) (
cond ((route : Int) == 5) (
nck e0 fun a7 =>
ldc (.ptr) w a7 fun (v6 : Option Addr) =>
nck v6 fun a8 =>
ldc (.ptr) w a8 fun (v7 : Option Addr) =>
nck v7 fun a9 =>
ldc (.ptr) w a9 fun (v8 : Option Addr) =>
nck v8 fun a10 =>
ldc (.ptr) w a10 fun (v9 : Option Addr) =>
nck v9 fun a11 =>
cl Pg F.conv_Mul [.pointer (some a11), a.v, b.v] w [.one .slice, .one .bool] fun (s4 : Sl) (ok2 : Bool) w5 =>
R (.tuple #[s4.v, .bool ok2]) w5) (
R (.tuple #[.slice none 0 0, .bool false]) w))))))
theorem Ct.mul_Engine_gone {e0 : Option Addr} {route : Int} {a : Sl} {b : Sl} {w : TW} {X : Nat → Prop} {K : Tel (fl [.one .slice, .one .bool]) (TW → Prop)} (h : Sh.mul_Engine_gone e0 route a b (Rt X [.one .slice, .one .bool] K w) w.here) : Ct Pg F.mul_Engine_gone [.pointer e0, .int .i64 route, a.v, b.v] w X [.one .slice, .one .bool] K :=
  cod (Sh.mul_Engine_gone e0 route a b) 85 [] [] [] Go.Proofs.Tryz.f144 (by kernel_rfl) (by kernel_rfl) (by kernel_rfl) (fun _ _ => by kernel_rfl) h
def Sh.mul_Engine_pieces (e0 : Option Addr) (a : Sl) (b : Sl) (n : Int) (R : Value → TW → Prop) (w : TW) : Prop :=
Jn [.slice, .slice] (fun J0 =>
cond (decide (((a.n : Int) : Int) < (b.n : Int))) (
J0 b a w) (
J0 a b w)) fun (a1 : Sl) (b1 : Sl) w1 =>
Jn [.slice] (fun J1 =>
Lp [.slice, .int .i64] (fun (parts : Sl) (from0 : Int) w2 C0 =>
cond (decide ((from0 : Int) < (a1.n : Int))) (
bnd (wi (from0 + n)) fun n1 =>
bnd (if (n1 : Int) < (a1.n : Int) then n1 else (a1.n : Int)) fun n2 =>
slc a1 from0 n2 1 fun s =>
apd w2 T.uint64 1 8 Sl.nil s fun s1 w3 =>
cl Pg F.mul_Engine_times [.pointer e0, s1.v, b1.v] w3 [.one .slice] fun (s2 : Sl) w4 =>
nwb w4 [s2.v] T.api_Nat fun b2 w5 =>
apd w5 T.api_Nat 1 24 parts ⟨(some ⟨b2, 0, none⟩), 1, 1⟩ fun s3 w6 =>
bnd (wi (from0 + n)) fun n3 =>
C0 s3 n3 w6) (
J1 parts w2)) Sl.nil 0 w1) fun (parts1 : Sl) w7 =>
cl Pg F.limb_Join [.int .i64 n, parts1.v] w7 [.one .slice] fun (s4 : Sl) w8 =>
R (s4.v) w8
theorem Ct.mul_Engine_pieces {e0 : Option Addr} {a : Sl} {b : Sl} {n : Int} {w : TW} {X : Nat → Prop} {K : Tel (fl [.one .slice]) (TW → Prop)} (h : Sh.mul_Engine_pieces e0 a b n (Rt X [.one .slice] K w) w.here) : Ct Pg F.mul_Engine_pieces [.pointer e0, a.v, b.v, .int .i64 n] w X [.one .slice] K :=
  cod (Sh.mul_Engine_pieces e0 a b n) 44 [] [] [(1, 2, [(1, .one .slice), (2, .one .slice)]), (2, 0, [(9, .one .slice)]), (3, 5, [(9, .one .slice), (10, .one (.int .i64))])] Go.Proofs.Tryz.f163 (by kernel_rfl) (by kernel_rfl) (by kernel_rfl) (fun _ _ => by kernel_rfl) h
def Sh.mul_Engine_block (e0 : Option Addr) (a : Sl) (b : Sl) (R : Value → TW → Prop) (w : TW) : Prop :=
nck e0 fun a1 =>
ldc (.ptr) w a1 fun (v : Option Addr) =>
nck v fun a2 =>
ldc (.ptr) w a2 fun (v1 : Option Addr) =>
nck v1 fun a3 =>
ldc (.ptr) w a3 fun (v2 : Option Addr) =>
nck v2 fun a4 =>
ldc (.ptr) w a4 fun (v3 : Option Addr) =>
nck v3 fun a5 =>
cl Pg F.meter_Meter_Enter [.pointer (some a5)] w [.one (.int .i64)] fun (_ : Int) w1 =>
bnd (if ((b.n : Int) : Int) < (a.n : Int) then (b.n : Int) else (a.n : Int)) fun n =>
cl Pg F.mul_Engine_pieces [.pointer e0, a.v, b.v, .int .i64 n] w1 [.one .slice] fun (s : Sl) w2 =>
nck e0 fun a6 =>
ldc (.ptr) w2 a6 fun (v4 : Option Addr) =>
nck v4 fun a7 =>
ldc (.ptr) w2 a7 fun (v5 : Option Addr) =>
nck v5 fun a8 =>
ldc (.ptr) w2 a8 fun (v6 : Option Addr) =>
nck v6 fun a9 =>
ldc (.ptr) w2 a9 fun (v7 : Option Addr) =>
nck v7 fun a10 =>
cl Pg F.meter_Meter_Leave [.pointer (some a10)] w2 [.one (.int .i64)] fun (_ : Int) w3 =>
R (s.v) w3
theorem Ct.mul_Engine_block {e0 : Option Addr} {a : Sl} {b : Sl} {w : TW} {X : Nat → Prop} {K : Tel (fl [.one .slice]) (TW → Prop)} (h : Sh.mul_Engine_block e0 a b (Rt X [.one .slice] K w) w.here) : Ct Pg F.mul_Engine_block [.pointer e0, a.v, b.v] w X [.one .slice] K :=
  cod (Sh.mul_Engine_block e0 a b) 50 [] [] [] Go.Proofs.Tryz.f164 (by kernel_rfl) (by kernel_rfl) (by kernel_rfl) (fun _ _ => by kernel_rfl) h
def Sh.mul_New (t : HL [.int .i64, .int .i64, .int .i64, .int .i64, .int .i64, .int .i64, .int .i64, .int .i64, .int .i64, .int .i64, .int .i64]) (R : Value → TW → Prop) (w : TW) : Prop :=
nwv w fun w1 =>
cl Pg F.toom_New [.agg #[.int .i64 t.1, .int .i64 t.2.1, .int .i64 t.2.2.1, .int .i64 t.2.2.2.1, .int .i64 t.2.2.2.2.1, .int .i64 t.2.2.2.2.2.1, .int .i64 t.2.2.2.2.2.2.1, .int .i64 t.2.2.2.2.2.2.2.1, .int .i64 t.2.2.2.2.2.2.2.2.1, .int .i64 t.2.2.2.2.2.2.2.2.2.1, .int .i64 t.2.2.2.2.2.2.2.2.2.2.1]] w1 [.one .ptr] fun (p : Option Addr) w2 =>
nwb w2 [.pointer p] T.mul_Engine fun b w3 =>
R (.pointer (some ⟨b, 0, none⟩)) w3
theorem Ct.mul_New {t : HL [.int .i64, .int .i64, .int .i64, .int .i64, .int .i64, .int .i64, .int .i64, .int .i64, .int .i64, .int .i64, .int .i64]} {w : TW} {X : Nat → Prop} {K : Tel (fl [.one .ptr]) (TW → Prop)} (h : Sh.mul_New t (Rt X [.one .ptr] K w) w.here) : Ct Pg F.mul_New [.agg (encs [.int .i64, .int .i64, .int .i64, .int .i64, .int .i64, .int .i64, .int .i64, .int .i64, .int .i64, .int .i64, .int .i64] t).toArray] w X [.one .ptr] K :=
  cod (Sh.mul_New t) 7 [(1, 7)] [(7, 11)] [] Go.Proofs.Tryz.f223 (by kernel_rfl) (by kernel_rfl) (by kernel_rfl) (fun _ _ => by kernel_rfl) h
end Go.Proofs.YticehedkalheiaaGreatDoor.Zg
end
