/- A part of the proofs of this seat's laws: words, lemmas or contracts of its functions. -/
import Derived.Test.YticehedkalheiaaGreatDoorGC
set_option linter.unusedVariables false
set_option linter.unusedSimpArgs false
set_option linter.unnecessarySimpa false
section
set_option maxRecDepth 100000
namespace Go.Proofs.YticehedkalheiaaGreatDoor.Zg
def Sh.zigguratref02_Same (a : Sl) (b : Sl) (R : Value → TW → Prop) (w : TW) : Prop :=
cl Pg F.zigguratref02_To [a.v] w [.one .slice] fun (s : Sl) w1 =>
cond (((s.n : Int) : Int) != (b.n : Int)) (
R (.bool false) w1) (
Jn [] (fun J0 =>
Lp [.int .i64] (fun (i : Int) w2 C0 =>
cond (decide ((i : Int) < (s.n : Int))) (
ixa s i 1 fun a1 =>
ldc (.int .u64) w2.drew a1 fun (v : Int) =>
ixa b i 1 fun a2 =>
ldc (.int .u64) w2.drew a2 fun (v1 : Int) =>
cond ((v : Int) != v1) (
R (.bool false) w2.drew) (
bnd (wi (i + 1)) fun n =>
C0 n w2.drew)) (
J0 w2)) 0 w1) fun  w3 =>
R (.bool true) w3)
theorem Ct.zigguratref02_Same {a : Sl} {b : Sl} {w : TW} {X : Nat → Prop} {K : Tel (fl [.one .bool]) (TW → Prop)} (h : Sh.zigguratref02_Same a b (Rt X [.one .bool] K w) w.here) : Ct Pg F.zigguratref02_Same [a.v, b.v] w X [.one .bool] K :=
  cod (Sh.zigguratref02_Same a b) 29 [] [] [(2, 0, []), (3, 5, [(6, .one (.int .i64))])] Go.Proofs.Tryz.f28 (by kernel_rfl) (by kernel_rfl) (by kernel_rfl) (fun _ _ => by kernel_rfl) h
def Sh.zigguratref02_Gcd (a : Sl) (b : Sl) (R : Value → TW → Prop) (w : TW) : Prop :=
cl Pg F.zigguratref02_Zero [a.v] w [.one .bool] fun (ok : Bool) w1 =>
cond ok (
R (b.v) w1) (
cl Pg F.zigguratref02_Zero [b.v] w1 [.one .bool] fun (ok1 : Bool) w2 =>
cond ok1 (
R (a.v) w2) (
Jn [.slice, .slice, .int .i64] (fun J0 =>
Lp [.slice, .slice, .int .i64] (fun (a1 : Sl) (b1 : Sl) (k : Int) w3 C0 =>
Jn [.bool] (fun J1 =>
cl Pg F.zigguratref02_even [a1.v] w3 [.one .bool] fun (ok2 : Bool) w4 =>
cond ok2 (
cl Pg F.zigguratref02_even [b1.v] w4 [.one .bool] fun (ok3 : Bool) w5 =>
J1 ok3 w5) (
J1 false w4)) fun (x : Bool) w6 =>
cond x (
cl Pg F.zigguratref02_Shr [a1.v, .int .i64 1] w6 [.one .slice] fun (s : Sl) w7 =>
cl Pg F.zigguratref02_Shr [b1.v, .int .i64 1] w7 [.one .slice] fun (s1 : Sl) w8 =>
bnd (wi (k + 1)) fun n =>
C0 s s1 n w8) (
J0 a1 b1 k w6)) a b 0 w2) fun (a2 : Sl) (b2 : Sl) (k1 : Int) w9 =>
Jn [.slice] (fun J2 =>
Lp [.slice, .slice] (fun (a3 : Sl) (b3 : Sl) w10 C1 =>
cl Pg F.zigguratref02_Zero [b3.v] w10 [.one .bool] fun (ok4 : Bool) w11 =>
cond (!ok4) (
Jn [.slice] (fun J3 =>
Lp [.slice] (fun (a4 : Sl) w12 C2 =>
cl Pg F.zigguratref02_even [a4.v] w12 [.one .bool] fun (ok5 : Bool) w13 =>
cond ok5 (
cl Pg F.zigguratref02_Shr [a4.v, .int .i64 1] w13 [.one .slice] fun (s2 : Sl) w14 =>
C2 s2 w14) (
J3 a4 w13)) a3 w11) fun (a5 : Sl) w15 =>
Jn [.slice] (fun J4 =>
Lp [.slice] (fun (b4 : Sl) w16 C3 =>
cl Pg F.zigguratref02_even [b4.v] w16 [.one .bool] fun (ok6 : Bool) w17 =>
cond ok6 (
cl Pg F.zigguratref02_Shr [b4.v, .int .i64 1] w17 [.one .slice] fun (s3 : Sl) w18 =>
C3 s3 w18) (
J4 b4 w17)) b3 w15) fun (b5 : Sl) w19 =>
cl Pg F.zigguratref02_Cmp [a5.v, b5.v] w19 [.one (.int .i64)] fun (r : Int) w20 =>
Jn [.slice, .slice] (fun J5 =>
cond (decide ((r : Int) > 0)) (
J5 b5 a5 w20) (
J5 a5 b5 w20)) fun (a6 : Sl) (b6 : Sl) w21 =>
cl Pg F.zigguratref02_Sub [b6.v, a6.v] w21 [.one .slice] fun (s4 : Sl) w22 =>
C1 a6 s4 w22) (
J2 a3 w11)) a2 b2 w9) fun (a7 : Sl) w23 =>
cl Pg F.zigguratref02_Shl [a7.v, .int .i64 k1] w23 [.one .slice] fun (s5 : Sl) w24 =>
R (s5.v) w24))
theorem Ct.zigguratref02_Gcd {a : Sl} {b : Sl} {w : TW} {X : Nat → Prop} {K : Tel (fl [.one .slice]) (TW → Prop)} (h : Sh.zigguratref02_Gcd a b (Rt X [.one .slice] K w) w.here) : Ct Pg F.zigguratref02_Gcd [a.v, b.v] w X [.one .slice] K :=
  cod (Sh.zigguratref02_Gcd a b) 47 [] [] [(2, 0, [(0, .one .slice), (1, .one .slice), (5, .one (.int .i64))]), (3, 6, [(0, .one .slice), (1, .one .slice), (5, .one (.int .i64))]), (0, 6, [(17, .one .bool)]), (2, 2, [(0, .one .slice)]), (3, 9, [(0, .one .slice), (1, .one .slice)]), (2, 4, [(0, .one .slice)]), (3, 10, [(0, .one .slice)]), (2, 6, [(1, .one .slice)]), (3, 12, [(1, .one .slice)]), (1, 15, [(0, .one .slice), (1, .one .slice)])] Go.Proofs.Tryz.f42 (by kernel_rfl) (by kernel_rfl) (by kernel_rfl) (fun _ _ => by kernel_rfl) h
def Sh.zigguratref02_Small (y : Int) (R : Value → TW → Prop) (w : TW) : Prop :=
nwb w [.int .u64 y] T.uint64 fun b w1 =>
cl Pg F.zigguratref02_From [.slice (some ⟨b, 0, none⟩) 1 1] w1 [.one .slice] fun (s : Sl) w2 =>
R (s.v) w2
theorem Ct.zigguratref02_Small {y : Int} {w : TW} {X : Nat → Prop} {K : Tel (fl [.one .slice]) (TW → Prop)} (h : Sh.zigguratref02_Small y (Rt X [.one .slice] K w) w.here) : Ct Pg F.zigguratref02_Small [.int .u64 y] w X [.one .slice] K :=
  cod (Sh.zigguratref02_Small y) 6 [] [] [] Go.Proofs.Tryz.f54 (by kernel_rfl) (by kernel_rfl) (by kernel_rfl) (fun _ _ => by kernel_rfl) h
def Sh.zigguratref02_To (a : Sl) (R : Value → TW → Prop) (w : TW) : Prop :=
Jn [.slice] (fun J0 =>
Lp [.slice, .int .i64] (fun (out : Sl) (i : Int) w1 C0 =>
cond (decide ((i : Int) < (a.n : Int))) (
ixa a i 1 fun a1 =>
ldc (.int .u64) w1 a1 fun (v : Int) =>
bnd (wi (i + 1)) fun n =>
Jn [.int .u64] (fun J1 =>
cond (decide ((n : Int) < (a.n : Int))) (
bnd (wi (i + 1)) fun n1 =>
ixa a n1 1 fun a2 =>
ldc (.int .u64) w1 a2 fun (v1 : Int) =>
bnd (wu (v1 * 4294967296)) fun n2 =>
bnd (wu (v + n2)) fun n3 =>
J1 n3 w1) (
J1 v w1)) fun (y : Int) w2 =>
nwb w2 [.int .u64 y] T.uint64 fun b w3 =>
apd w3 T.uint64 1 8 out ⟨(some ⟨b, 0, none⟩), 1, 1⟩ fun s w4 =>
bnd (wi (i + 2)) fun n4 =>
C0 s n4 w4) (
J0 out w1)) Sl.nil 0 w) fun (out1 : Sl) w5 =>
Jn [.slice] (fun J2 =>
Lp [.slice] (fun (out2 : Sl) w6 C1 =>
Jn [.bool] (fun J3 =>
cond (decide (((out2.n : Int) : Int) > 0)) (
bnd (wi ((out2.n : Int) - 1)) fun n5 =>
ixa out2 n5 1 fun a3 =>
ldc (.int .u64) w6 a3 fun (v2 : Int) =>
J3 ((v2 : Int) == 0) w6) (
J3 false w6)) fun (x : Bool) w7 =>
cond x (
bnd (wi ((out2.n : Int) - 1)) fun n6 =>
slc out2 0 n6 1 fun s1 =>
C1 s1 w7) (
J2 out2 w7)) out1 w5) fun (out3 : Sl) w8 =>
R (out3.v) w8
theorem Ct.zigguratref02_To {a : Sl} {w : TW} {X : Nat → Prop} {K : Tel (fl [.one .slice]) (TW → Prop)} (h : Sh.zigguratref02_To a (Rt X [.one .slice] K w) w.here) : Ct Pg F.zigguratref02_To [a.v] w X [.one .slice] K :=
  cod (Sh.zigguratref02_To a) 51 [] [] [(2, 0, [(3, .one .slice)]), (3, 3, [(3, .one .slice), (4, .one (.int .i64))]), (1, 7, [(5, .one (.int .u64))]), (2, 2, [(3, .one .slice)]), (3, 9, [(3, .one .slice)]), (0, 9, [(44, .one .bool)])] Go.Proofs.Tryz.f56 (by kernel_rfl) (by kernel_rfl) (by kernel_rfl) (fun _ _ => by kernel_rfl) h
def Sh.zigguratref02_Cmp (a : Sl) (b : Sl) (R : Value → TW → Prop) (w : TW) : Prop :=
cond (((a.n : Int) : Int) != (b.n : Int)) (
cond (decide (((a.n : Int) : Int) < (b.n : Int))) (
R (.int .i64 (-1)) w) (
R (.int .i64 1) w)) (
bnd (wi ((a.n : Int) - 1)) fun n =>
Jn [] (fun J0 =>
Lp [.int .i64] (fun (i : Int) w1 C0 =>
cond (decide ((i : Int) ≥ 0)) (
ixa a i 1 fun a1 =>
ldc (.int .u64) w1.drew a1 fun (v : Int) =>
ixa b i 1 fun a2 =>
ldc (.int .u64) w1.drew a2 fun (v1 : Int) =>
cond (decide ((v : Int) < v1)) (
R (.int .i64 (-1)) w1.drew) (
ixa a i 1 fun a3 =>
ldc (.int .u64) w1.drew.drew a3 fun (v2 : Int) =>
ixa b i 1 fun a4 =>
ldc (.int .u64) w1.drew.drew a4 fun (v3 : Int) =>
cond (decide ((v2 : Int) > v3)) (
R (.int .i64 1) w1.drew.drew) (
bnd (wi (i - 1)) fun n1 =>
C0 n1 w1.drew.drew))) (
J0 w1)) n w) fun  w2 =>
R (.int .i64 0) w2)
theorem Ct.zigguratref02_Cmp {a : Sl} {b : Sl} {w : TW} {X : Nat → Prop} {K : Tel (fl [.one (.int .i64)]) (TW → Prop)} (h : Sh.zigguratref02_Cmp a b (Rt X [.one (.int .i64)] K w) w.here) : Ct Pg F.zigguratref02_Cmp [a.v, b.v] w X [.one (.int .i64)] K :=
  cod (Sh.zigguratref02_Cmp a b) 41 [] [] [(2, 0, []), (3, 6, [(5, .one (.int .i64))])] Go.Proofs.Tryz.f84 (by kernel_rfl) (by kernel_rfl) (by kernel_rfl) (fun _ _ => by kernel_rfl) h
def Sh.zigguratref02_From (a : Sl) (R : Value → TW → Prop) (w : TW) : Prop :=
bnd (wi (2 * (a.n : Int))) fun n =>
mks w 0 n T.uint64 8 [.int .u64 0] fun s w1 =>
Jn [.slice] (fun J0 =>
Lp [.slice, .int .i64] (fun (out : Sl) (i : Int) w2 C0 =>
cond (decide ((i : Int) < (a.n : Int))) (
ixa a i 1 fun a1 =>
ldc (.int .u64) w2.drew a1 fun (v : Int) =>
remK v 4294967296 fun n1 =>
ixa a i 1 fun a2 =>
ldc (.int .u64) w2.drew a2 fun (v1 : Int) =>
divK .u64 v1 4294967296 fun n2 =>
nwb w2.drew [.int .u64 n1, .int .u64 n2] T.uint64 fun b w3 =>
hld w3 [(a2, .int .u64 v1), (a1, .int .u64 v)] <|
apd w3 T.uint64 1 8 out ⟨(some ⟨b, 0, none⟩), 2, 2⟩ fun s1 w4 =>
hld w4 [(a2, .int .u64 v1), (a1, .int .u64 v)] <|
bnd (wi (i + 1)) fun n3 =>
C0 s1 n3 w4) (
J0 out w2)) s 0 w1) fun (out1 : Sl) w5 =>
cl Pg F.zigguratref02_norm [out1.v] w5 [.one .slice] fun (s2 : Sl) w6 =>
R (s2.v) w6
theorem Ct.zigguratref02_From {a : Sl} {w : TW} {X : Nat → Prop} {K : Tel (fl [.one .slice]) (TW → Prop)} (h : Sh.zigguratref02_From a (Rt X [.one .slice] K w) w.here) : Ct Pg F.zigguratref02_From [a.v] w X [.one .slice] K :=
  cod (Sh.zigguratref02_From a) 30 [] [] [(2, 0, [(3, .one .slice)]), (3, 3, [(3, .one .slice), (4, .one (.int .i64))])] Go.Proofs.Tryz.f99 (by kernel_rfl) (by kernel_rfl) (by kernel_rfl) (fun _ _ => by kernel_rfl) h
def Sh.zigguratref02_Zero (a : Sl) (R : Value → TW → Prop) (w : TW) : Prop :=
R (.bool (((a.n : Int) : Int) == 0)) w
theorem Ct.zigguratref02_Zero {a : Sl} {w : TW} {X : Nat → Prop} {K : Tel (fl [.one .bool]) (TW → Prop)} (h : Sh.zigguratref02_Zero a (Rt X [.one .bool] K w) w.here) : Ct Pg F.zigguratref02_Zero [a.v] w X [.one .bool] K :=
  cod (Sh.zigguratref02_Zero a) 6 [] [] [] Go.Proofs.Tryz.f102 (by kernel_rfl) (by kernel_rfl) (by kernel_rfl) (fun _ _ => by kernel_rfl) h
def Sh.zigguratref02_even (a : Sl) (R : Value → TW → Prop) (w : TW) : Prop :=
ixa a 0 1 fun a1 =>
ldc (.int .u64) w a1 fun (v : Int) =>
remK v 2 fun n =>
R (.bool ((n : Int) == 0)) w
theorem Ct.zigguratref02_even {a : Sl} {w : TW} {X : Nat → Prop} {K : Tel (fl [.one .bool]) (TW → Prop)} (h : Sh.zigguratref02_even a (Rt X [.one .bool] K w) w.here) : Ct Pg F.zigguratref02_even [a.v] w X [.one .bool] K :=
  cod (Sh.zigguratref02_even a) 8 [] [] [] Go.Proofs.Tryz.f110 (by kernel_rfl) (by kernel_rfl) (by kernel_rfl) (fun _ _ => by kernel_rfl) h
def Sh.zigguratref02_Shr (a : Sl) (n : Int) (R : Value → TW → Prop) (w : TW) : Prop :=
divK .i64 n 32 fun n1 =>
Jn [.slice] (fun J0 =>
Lp [.slice, .int .i64] (fun (out : Sl) (i : Int) w1 C0 =>
cond (decide ((i : Int) < (a.n : Int))) (
ixa a i 1 fun a1 =>
ldc (.int .u64) w1 a1 fun (v : Int) =>
remK n 32 fun n2 =>
bnd (wu (n2)) fun n3 =>
shrK .u64 v n3 fun n4 =>
bnd (wi (i + 1)) fun n5 =>
Jn [.int .u64] (fun J1 =>
cond (decide ((n5 : Int) < (a.n : Int))) (
bnd (wi (i + 1)) fun n6 =>
ixa a n6 1 fun a2 =>
ldc (.int .u64) w1 a2 fun (v1 : Int) =>
remK n 32 fun n7 =>
bnd (wi (32 - n7)) fun n8 =>
bnd (wu (n8)) fun n9 =>
shlK .u64 v1 n9 fun n10 =>
remK n10 4294967296 fun n11 =>
bnd (wu (n4 + n11)) fun n12 =>
J1 n12 w1) (
J1 n4 w1)) fun (y : Int) w2 =>
remK y 4294967296 fun n13 =>
nwb w2 [.int .u64 n13] T.uint64 fun b w3 =>
apd w3 T.uint64 1 8 out ⟨(some ⟨b, 0, none⟩), 1, 1⟩ fun s w4 =>
bnd (wi (i + 1)) fun n14 =>
C0 s n14 w4) (
J0 out w1)) Sl.nil n1 w) fun (out1 : Sl) w5 =>
cl Pg F.zigguratref02_norm [out1.v] w5 [.one .slice] fun (s1 : Sl) w6 =>
R (s1.v) w6
theorem Ct.zigguratref02_Shr {a : Sl} {n : Int} {w : TW} {X : Nat → Prop} {K : Tel (fl [.one .slice]) (TW → Prop)} (h : Sh.zigguratref02_Shr a n (Rt X [.one .slice] K w) w.here) : Ct Pg F.zigguratref02_Shr [a.v, .int .i64 n] w X [.one .slice] K :=
  cod (Sh.zigguratref02_Shr a n) 49 [] [] [(2, 0, [(5, .one .slice)]), (3, 3, [(5, .one .slice), (6, .one (.int .i64))]), (1, 7, [(7, .one (.int .u64))])] Go.Proofs.Tryz.f111 (by kernel_rfl) (by kernel_rfl) (by kernel_rfl) (fun _ _ => by kernel_rfl) h
def Sh.zigguratref02_Sub (a : Sl) (b : Sl) (R : Value → TW → Prop) (w : TW) : Prop :=
mks w 0 (a.n : Int) T.uint64 8 [.int .u64 0] fun s w1 =>
Jn [.slice] (fun J0 =>
Lp [.slice, .int .u64, .int .i64] (fun (out : Sl) (c : Int) (i : Int) w2 C0 =>
cond (decide ((i : Int) < (a.n : Int))) (
Jn [.int .u64] (fun J1 =>
cond (decide ((i : Int) < (b.n : Int))) (
ixa b i 1 fun a1 =>
ldc (.int .u64) w2 a1 fun (v : Int) =>
bnd (wu (c + v)) fun n =>
J1 n w2) (
J1 c w2)) fun (s1 : Int) w3 =>
ixa a i 1 fun a2 =>
ldc (.int .u64) w3 a2 fun (v1 : Int) =>
Jn [.slice, .int .u64] (fun J2 =>
cond (decide ((v1 : Int) ≥ s1)) (
ixa a i 1 fun a3 =>
ldc (.int .u64) w3 a3 fun (v2 : Int) =>
bnd (wu (v2 - s1)) fun n1 =>
nwb w3 [.int .u64 n1] T.uint64 fun b1 w4 =>
apd w4 T.uint64 1 8 out ⟨(some ⟨b1, 0, none⟩), 1, 1⟩ fun s2 w5 =>
J2 s2 0 w5) (
ixa a i 1 fun a4 =>
ldc (.int .u64) w3 a4 fun (v3 : Int) =>
bnd (wu (v3 + 4294967296)) fun n2 =>
bnd (wu (n2 - s1)) fun n3 =>
nwb w3 [.int .u64 n3] T.uint64 fun b2 w6 =>
apd w6 T.uint64 1 8 out ⟨(some ⟨b2, 0, none⟩), 1, 1⟩ fun s3 w7 =>
J2 s3 1 w7)) fun (out1 : Sl) (c1 : Int) w8 =>
bnd (wi (i + 1)) fun n4 =>
C0 out1 c1 n4 w8) (
J0 out w2)) s 0 0 w1) fun (out2 : Sl) w9 =>
cl Pg F.zigguratref02_norm [out2.v] w9 [.one .slice] fun (s4 : Sl) w10 =>
R (s4.v) w10
theorem Ct.zigguratref02_Sub {a : Sl} {b : Sl} {w : TW} {X : Nat → Prop} {K : Tel (fl [.one .slice]) (TW → Prop)} (h : Sh.zigguratref02_Sub a b (Rt X [.one .slice] K w) w.here) : Ct Pg F.zigguratref02_Sub [a.v, b.v] w X [.one .slice] K :=
  cod (Sh.zigguratref02_Sub a b) 56 [] [] [(2, 0, [(5, .one .slice)]), (3, 4, [(5, .one .slice), (6, .one (.int .u64)), (7, .one (.int .i64))]), (1, 8, [(8, .one (.int .u64))]), (1, 10, [(5, .one .slice), (6, .one (.int .u64))])] Go.Proofs.Tryz.f112 (by kernel_rfl) (by kernel_rfl) (by kernel_rfl) (fun _ _ => by kernel_rfl) h
def Sh.zigguratref02_Shl (a : Sl) (n : Int) (R : Value → TW → Prop) (w : TW) : Prop :=
cond (((a.n : Int) : Int) == 0) (
R (.slice none 0 0) w) (
divK .i64 n 32 fun n1 =>
divK .i64 n 32 fun n2 =>
bnd (wi (n2 + (a.n : Int))) fun n3 =>
bnd (wi (n3 + 1)) fun n4 =>
mks w n1 n4 T.uint64 8 [.int .u64 0] fun s w1 =>
Jn [.slice, .int .u64] (fun J0 =>
Lp [.slice, .int .u64, .int .i64] (fun (out : Sl) (c : Int) (i : Int) w2 C0 =>
cond (decide ((i : Int) < (a.n : Int))) (
ixa a i 1 fun a1 =>
ldc (.int .u64) w2 a1 fun (v : Int) =>
remK n 32 fun n5 =>
bnd (wu (n5)) fun n6 =>
shlK .u64 v n6 fun n7 =>
bnd (wu (c + n7)) fun n8 =>
remK n8 4294967296 fun n9 =>
nwb w2 [.int .u64 n9] T.uint64 fun b w3 =>
apd w3 T.uint64 1 8 out ⟨(some ⟨b, 0, none⟩), 1, 1⟩ fun s1 w4 =>
divK .u64 n8 4294967296 fun n10 =>
bnd (wi (i + 1)) fun n11 =>
C0 s1 n10 n11 w4) (
J0 out c w2)) s 0 0 w1) fun (out1 : Sl) (c1 : Int) w5 =>
nwb w5 [.int .u64 c1] T.uint64 fun b1 w6 =>
apd w6 T.uint64 1 8 out1 ⟨(some ⟨b1, 0, none⟩), 1, 1⟩ fun s2 w7 =>
cl Pg F.zigguratref02_norm [s2.v] w7 [.one .slice] fun (s3 : Sl) w8 =>
R (s3.v) w8)
theorem Ct.zigguratref02_Shl {a : Sl} {n : Int} {w : TW} {X : Nat → Prop} {K : Tel (fl [.one .slice]) (TW → Prop)} (h : Sh.zigguratref02_Shl a n (Rt X [.one .slice] K w) w.here) : Ct Pg F.zigguratref02_Shl [a.v, .int .i64 n] w X [.one .slice] K :=
  cod (Sh.zigguratref02_Shl a n) 48 [] [] [(2, 0, [(5, .one .slice), (6, .one (.int .u64))]), (3, 6, [(5, .one .slice), (6, .one (.int .u64)), (7, .one (.int .i64))])] Go.Proofs.Tryz.f113 (by kernel_rfl) (by kernel_rfl) (by kernel_rfl) (fun _ _ => by kernel_rfl) h
def Sh.zigguratref02_norm (a : Sl) (R : Value → TW → Prop) (w : TW) : Prop :=
Jn [.int .i64] (fun J0 =>
Lp [.int .i64] (fun (k : Int) w1 C0 =>
Jn [.bool] (fun J1 =>
cond (decide ((k : Int) > 0)) (
bnd (wi (k - 1)) fun n =>
ixa a n 1 fun a1 =>
ldc (.int .u64) w1 a1 fun (v : Int) =>
J1 ((v : Int) == 0) w1) (
J1 false w1)) fun (x : Bool) w2 =>
cond x (
bnd (wi (k - 1)) fun n1 =>
C0 n1 w2) (
J0 k w2)) (a.n : Int) w) fun (k1 : Int) w3 =>
slc a 0 k1 1 fun s =>
R (s.v) w3
theorem Ct.zigguratref02_norm {a : Sl} {w : TW} {X : Nat → Prop} {K : Tel (fl [.one .slice]) (TW → Prop)} (h : Sh.zigguratref02_norm a (Rt X [.one .slice] K w) w.here) : Ct Pg F.zigguratref02_norm [a.v] w X [.one .slice] K :=
  cod (Sh.zigguratref02_norm a) 21 [] [] [(2, 0, [(3, .one (.int .i64))]), (3, 2, [(3, .one (.int .i64))]), (0, 2, [(15, .one .bool)])] Go.Proofs.Tryz.f119 (by kernel_rfl) (by kernel_rfl) (by kernel_rfl) (fun _ _ => by kernel_rfl) h
end Go.Proofs.YticehedkalheiaaGreatDoor.Zg
end

section
set_option maxRecDepth 100000
namespace Go.Proofs.YticehedkalheiaaGreatDoor.Zg
def Sh.zigguratref17_Coprime (l : Sl) (R : Value → TW → Prop) (w : TW) : Prop :=
Jn [] (fun J0 =>
Lp [.int .i64] (fun (i : Int) w1 C0 =>
cond (decide ((i : Int) < (l.n : Int))) (
Jn [] (fun J1 =>
Lp [.int .i64] (fun (k : Int) w2 C1 =>
cond (decide ((k : Int) < i)) (
ixa l i 1 fun a =>
ldc (.slice) w2.drew a fun (v : Sl) =>
ixa l k 1 fun a1 =>
ldc (.slice) w2.drew a1 fun (v1 : Sl) =>
cl Pg F.zigguratref02_From [v.v] w2.drew [.one .slice] fun (s : Sl) w3 =>
hld w3 [(a1, v1.v)] <|
cl Pg F.zigguratref02_From [v1.v] w3 [.one .slice] fun (s1 : Sl) w4 =>
cl Pg F.zigguratref02_Gcd [s.v, s1.v] w4 [.one .slice] fun (s2 : Sl) w5 =>
cl Pg F.zigguratref02_Small [.int .u64 1] w5 [.one .slice] fun (s3 : Sl) w6 =>
cl Pg F.zigguratref02_Cmp [s2.v, s3.v] w6 [.one (.int .i64)] fun (r : Int) w7 =>
cond ((r : Int) != 0) (
R (.bool false) w7) (
bnd (wi (k + 1)) fun n =>
C1 n w7)) (
J1 w2)) 0 w1) fun  w8 =>
bnd (wi (i + 1)) fun n1 =>
C0 n1 w8) (
J0 w1)) 0 w) fun  w9 =>
R (.bool true) w9
theorem Ct.zigguratref17_Coprime {l : Sl} {w : TW} {X : Nat → Prop} {K : Tel (fl [.one .bool]) (TW → Prop)} (h : Sh.zigguratref17_Coprime l (Rt X [.one .bool] K w) w.here) : Ct Pg F.zigguratref17_Coprime [l.v] w X [.one .bool] K :=
  cod (Sh.zigguratref17_Coprime l) 32 [] [] [(2, 0, []), (3, 2, [(3, .one (.int .i64))]), (2, 2, []), (3, 5, [(4, .one (.int .i64))])] Go.Proofs.Tryz.f52 (by kernel_rfl) (by kernel_rfl) (by kernel_rfl) (fun _ _ => by kernel_rfl) h
end Go.Proofs.YticehedkalheiaaGreatDoor.Zg
end
