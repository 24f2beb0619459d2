/- What each function of Go's package 'zigguratref02' does, step by step (its reading), and that its contract follows from that. Written by genseat.py. -/
import Derived.Test.YthhohfgpaihngaaZgX
set_option linter.unusedVariables false
set_option linter.unusedSimpArgs false
set_option linter.unnecessarySimpa false
set_option maxRecDepth 100000
namespace Go.Proofs.Ythhohfgpaihngaa.Zg
def Sh.zigguratref02_Same (a : Sl) (b : Sl) (R : Value → TW → Prop) (w : TW) : Prop :=
cl Pg F.zigguratref02_To [a.v] w [.one .slice] fun (s : Sl) w1 =>
cond (((s.n : Int) : Int) != (b.n : Int)) (
R (.bool false) w1) (
Jn [] (fun J0 =>
Lp [.int .i64] (fun (i : Int) w2 C0 =>
cond (decide ((i : Int) < (s.n : Int))) (
ixa s i 1 fun a1 =>
ldc (.int .u64) w2.drew a1 fun (v : Int) =>
ixa b i 1 fun a2 =>
ldc (.int .u64) w2.drew a2 fun (v1 : Int) =>
cond ((v : Int) != v1) (
R (.bool false) w2.drew) (
bnd (wi (i + 1)) fun n =>
C0 n w2.drew)) (
J0 w2)) 0 w1) fun  w3 =>
R (.bool true) w3)
def Dc.zigguratref02_Same : Dc := { N := 29, va := [], vb := [], ann := [(2, 0, []), (3, 5, [(6, .one (.int .i64))])], ext := Xt }
theorem Eq.zigguratref02_Same (a : Sl) (b : Sl) (R : Value → TW → Prop) (w : TW) : denF Pg Dc.zigguratref02_Same Go.Proofs.Try.f19 (Go.Proofs.Try.f19.body.getD .skip) [a.v, b.v] w R = Sh.zigguratref02_Same a b R w := by kernel_rfl
theorem Ct.zigguratref02_Same {a : Sl} {b : Sl} {w : TW} {X : Nat → Prop} {K : Tel (fl [.one .bool]) (TW → Prop)} (h : Sh.zigguratref02_Same a b (Rt X [.one .bool] K w) w.here) : Ct Pg F.zigguratref02_Same [a.v, b.v] w X [.one .bool] K :=
  ct_of_den (D := Dc.zigguratref02_Same) (fn := Go.Proofs.Try.f19) Xt_ok follows_ok (by kernel_rfl) (by kernel_rfl) (by kernel_rfl) (Eq.mpr (Eq.zigguratref02_Same a b _ _) h)

def Sh.zigguratref02_Mul (a : Sl) (b : Sl) (R : Value → TW → Prop) (w : TW) : Prop :=
bnd (wi ((a.n : Int) + (b.n : Int))) fun n =>
mks w n n T.uint64 8 [.int .u64 0] fun s w1 =>
Jn [] (fun J0 =>
Lp [.int .i64] (fun (i : Int) w2 C0 =>
cond (decide ((i : Int) < (a.n : Int))) (
Jn [.int .u64] (fun J1 =>
Lp [.int .u64, .int .i64] (fun (c : Int) (j : Int) w3 C1 =>
cond (decide ((j : Int) < (b.n : Int))) (
bnd (wi (i + j)) fun n1 =>
ixa s n1 1 fun a1 =>
ldc (.int .u64) w3.drew a1 fun (v : Int) =>
ixa a i 1 fun a2 =>
ldc (.int .u64) w3.drew a2 fun (v1 : Int) =>
ixa b j 1 fun a3 =>
ldc (.int .u64) w3.drew a3 fun (v2 : Int) =>
bnd (wu (v1 * v2)) fun n2 =>
bnd (wu (v + n2)) fun n3 =>
bnd (wu (n3 + c)) fun n4 =>
bnd (wi (i + j)) fun n5 =>
remK n4 4294967296 fun n6 =>
ixa s n5 1 fun a4 =>
stc w3.drew a4 (.int .u64 n6) fun w4 =>
divK .u64 n4 4294967296 fun n7 =>
bnd (wi (j + 1)) fun n8 =>
C1 n7 n8 w4) (
J1 c w3)) 0 0 w2) fun (c1 : Int) w5 =>
bnd (wi (i + (b.n : Int))) fun n9 =>
ixa s n9 1 fun a5 =>
stc w5 a5 (.int .u64 c1) fun w6 =>
bnd (wi (i + 1)) fun n10 =>
C0 n10 w6) (
J0 w2)) 0 w1) fun  w7 =>
cl Pg F.zigguratref02_norm [s.v] w7 [.one .slice] fun (s1 : Sl) w8 =>
R (s1.v) w8
def Dc.zigguratref02_Mul : Dc := { N := 64, va := [], vb := [], ann := [(2, 0, []), (3, 3, [(6, .one (.int .i64))]), (2, 2, [(7, .one (.int .u64))]), (3, 7, [(7, .one (.int .u64)), (8, .one (.int .i64))])], ext := Xt }
theorem Eq.zigguratref02_Mul (a : Sl) (b : Sl) (R : Value → TW → Prop) (w : TW) : denF Pg Dc.zigguratref02_Mul Go.Proofs.Try.f20 (Go.Proofs.Try.f20.body.getD .skip) [a.v, b.v] w R = Sh.zigguratref02_Mul a b R w := by kernel_rfl
theorem Ct.zigguratref02_Mul {a : Sl} {b : Sl} {w : TW} {X : Nat → Prop} {K : Tel (fl [.one .slice]) (TW → Prop)} (h : Sh.zigguratref02_Mul a b (Rt X [.one .slice] K w) w.here) : Ct Pg F.zigguratref02_Mul [a.v, b.v] w X [.one .slice] K :=
  ct_of_den (D := Dc.zigguratref02_Mul) (fn := Go.Proofs.Try.f20) Xt_ok follows_ok (by kernel_rfl) (by kernel_rfl) (by kernel_rfl) (Eq.mpr (Eq.zigguratref02_Mul a b _ _) h)

def Sh.zigguratref02_Add (a : Sl) (b : Sl) (R : Value → TW → Prop) (w : TW) : Prop :=
bnd (if ((b.n : Int) : Int) > (a.n : Int) then (b.n : Int) else (a.n : Int)) fun n =>
bnd (wi (n + 1)) fun n1 =>
mks w 0 n1 T.uint64 8 [.int .u64 0] fun s w1 =>
Jn [.slice] (fun J0 =>
Lp [.slice, .int .u64, .int .i64] (fun (out : Sl) (c : Int) (i : Int) w2 C0 =>
Jn [.bool] (fun J1 =>
cond (decide ((i : Int) < (a.n : Int))) (
J1 true w2) (
cond (decide ((i : Int) < (b.n : Int))) (
J1 true w2) (
J1 (decide ((c : Int) > 0)) w2))) fun (x : Bool) w3 =>
cond x (
Jn [.int .u64] (fun J2 =>
cond (decide ((i : Int) < (a.n : Int))) (
ixa a i 1 fun a1 =>
ldc (.int .u64) w3 a1 fun (v : Int) =>
bnd (wu (c + v)) fun n2 =>
J2 n2 w3) (
J2 c w3)) fun (c1 : Int) w4 =>
Jn [.int .u64] (fun J3 =>
cond (decide ((i : Int) < (b.n : Int))) (
ixa b i 1 fun a2 =>
ldc (.int .u64) w4 a2 fun (v1 : Int) =>
bnd (wu (c1 + v1)) fun n3 =>
J3 n3 w4) (
J3 c1 w4)) fun (c2 : Int) w5 =>
remK c2 4294967296 fun n4 =>
nwb w5 [.int .u64 n4] T.uint64 fun b1 w6 =>
apd w6 T.uint64 1 8 out ⟨(some ⟨b1, 0, none⟩), 1, 1⟩ fun s1 w7 =>
divK .u64 c2 4294967296 fun n5 =>
bnd (wi (i + 1)) fun n6 =>
C0 s1 n5 n6 w7) (
J0 out w3)) s 0 0 w1) fun (out1 : Sl) w8 =>
cl Pg F.zigguratref02_norm [out1.v] w8 [.one .slice] fun (s2 : Sl) w9 =>
R (s2.v) w9
def Dc.zigguratref02_Add : Dc := { N := 60, va := [], vb := [], ann := [(2, 0, [(5, .one .slice)]), (3, 4, [(5, .one .slice), (6, .one (.int .u64)), (7, .one (.int .i64))]), (0, 4, [(28, .one .bool)]), (1, 7, [(6, .one (.int .u64))]), (1, 9, [(6, .one (.int .u64))])], ext := Xt }
theorem Eq.zigguratref02_Add (a : Sl) (b : Sl) (R : Value → TW → Prop) (w : TW) : denF Pg Dc.zigguratref02_Add Go.Proofs.Try.f28 (Go.Proofs.Try.f28.body.getD .skip) [a.v, b.v] w R = Sh.zigguratref02_Add a b R w := by kernel_rfl
theorem Ct.zigguratref02_Add {a : Sl} {b : Sl} {w : TW} {X : Nat → Prop} {K : Tel (fl [.one .slice]) (TW → Prop)} (h : Sh.zigguratref02_Add a b (Rt X [.one .slice] K w) w.here) : Ct Pg F.zigguratref02_Add [a.v, b.v] w X [.one .slice] K :=
  ct_of_den (D := Dc.zigguratref02_Add) (fn := Go.Proofs.Try.f28) Xt_ok follows_ok (by kernel_rfl) (by kernel_rfl) (by kernel_rfl) (Eq.mpr (Eq.zigguratref02_Add a b _ _) h)

def Sh.zigguratref02_Shl (a : Sl) (n : Int) (R : Value → TW → Prop) (w : TW) : Prop :=
cond (((a.n : Int) : Int) == 0) (
R (.slice none 0 0) w) (
divK .i64 n 32 fun n1 =>
divK .i64 n 32 fun n2 =>
bnd (wi (n2 + (a.n : Int))) fun n3 =>
bnd (wi (n3 + 1)) fun n4 =>
mks w n1 n4 T.uint64 8 [.int .u64 0] fun s w1 =>
Jn [.slice, .int .u64] (fun J0 =>
Lp [.slice, .int .u64, .int .i64] (fun (out : Sl) (c : Int) (i : Int) w2 C0 =>
cond (decide ((i : Int) < (a.n : Int))) (
ixa a i 1 fun a1 =>
ldc (.int .u64) w2 a1 fun (v : Int) =>
remK n 32 fun n5 =>
bnd (wu (n5)) fun n6 =>
shlK .u64 v n6 fun n7 =>
bnd (wu (c + n7)) fun n8 =>
remK n8 4294967296 fun n9 =>
nwb w2 [.int .u64 n9] T.uint64 fun b w3 =>
apd w3 T.uint64 1 8 out ⟨(some ⟨b, 0, none⟩), 1, 1⟩ fun s1 w4 =>
divK .u64 n8 4294967296 fun n10 =>
bnd (wi (i + 1)) fun n11 =>
C0 s1 n10 n11 w4) (
J0 out c w2)) s 0 0 w1) fun (out1 : Sl) (c1 : Int) w5 =>
nwb w5 [.int .u64 c1] T.uint64 fun b1 w6 =>
apd w6 T.uint64 1 8 out1 ⟨(some ⟨b1, 0, none⟩), 1, 1⟩ fun s2 w7 =>
cl Pg F.zigguratref02_norm [s2.v] w7 [.one .slice] fun (s3 : Sl) w8 =>
R (s3.v) w8)
def Dc.zigguratref02_Shl : Dc := { N := 48, va := [], vb := [], ann := [(2, 0, [(5, .one .slice), (6, .one (.int .u64))]), (3, 6, [(5, .one .slice), (6, .one (.int .u64)), (7, .one (.int .i64))])], ext := Xt }
theorem Eq.zigguratref02_Shl (a : Sl) (n : Int) (R : Value → TW → Prop) (w : TW) : denF Pg Dc.zigguratref02_Shl Go.Proofs.Try.f29 (Go.Proofs.Try.f29.body.getD .skip) [a.v, .int .i64 n] w R = Sh.zigguratref02_Shl a n R w := by kernel_rfl
theorem Ct.zigguratref02_Shl {a : Sl} {n : Int} {w : TW} {X : Nat → Prop} {K : Tel (fl [.one .slice]) (TW → Prop)} (h : Sh.zigguratref02_Shl a n (Rt X [.one .slice] K w) w.here) : Ct Pg F.zigguratref02_Shl [a.v, .int .i64 n] w X [.one .slice] K :=
  ct_of_den (D := Dc.zigguratref02_Shl) (fn := Go.Proofs.Try.f29) Xt_ok follows_ok (by kernel_rfl) (by kernel_rfl) (by kernel_rfl) (Eq.mpr (Eq.zigguratref02_Shl a n _ _) h)

def Sh.zigguratref02_Pow (a : Sl) (n : Int) (R : Value → TW → Prop) (w : TW) : Prop :=
cl Pg F.zigguratref02_Small [.int .u64 1] w [.one .slice] fun (s : Sl) w1 =>
Jn [.slice] (fun J0 =>
Lp [.slice, .int .i64] (fun (out : Sl) (i : Int) w2 C0 =>
cond (decide ((i : Int) < n)) (
cl Pg F.zigguratref02_Mul [out.v, a.v] w2 [.one .slice] fun (s1 : Sl) w3 =>
bnd (wi (i + 1)) fun n1 =>
C0 s1 n1 w3) (
J0 out w2)) s 0 w1) fun (out1 : Sl) w4 =>
R (out1.v) w4
def Dc.zigguratref02_Pow : Dc := { N := 17, va := [], vb := [], ann := [(2, 0, [(5, .one .slice)]), (3, 3, [(5, .one .slice), (6, .one (.int .i64))])], ext := Xt }
theorem Eq.zigguratref02_Pow (a : Sl) (n : Int) (R : Value → TW → Prop) (w : TW) : denF Pg Dc.zigguratref02_Pow Go.Proofs.Try.f35 (Go.Proofs.Try.f35.body.getD .skip) [a.v, .int .i64 n] w R = Sh.zigguratref02_Pow a n R w := by kernel_rfl
theorem Ct.zigguratref02_Pow {a : Sl} {n : Int} {w : TW} {X : Nat → Prop} {K : Tel (fl [.one .slice]) (TW → Prop)} (h : Sh.zigguratref02_Pow a n (Rt X [.one .slice] K w) w.here) : Ct Pg F.zigguratref02_Pow [a.v, .int .i64 n] w X [.one .slice] K :=
  ct_of_den (D := Dc.zigguratref02_Pow) (fn := Go.Proofs.Try.f35) Xt_ok follows_ok (by kernel_rfl) (by kernel_rfl) (by kernel_rfl) (Eq.mpr (Eq.zigguratref02_Pow a n _ _) h)

def Sh.zigguratref02_Sum (l : Sl) (R : Value → TW → Prop) (w : TW) : Prop :=
Jn [.slice] (fun J0 =>
Lp [.slice, .int .i64] (fun (out : Sl) (i : Int) w1 C0 =>
cond (decide ((i : Int) < (l.n : Int))) (
ixa l i 1 fun a =>
ldc (.slice) w1 a fun (v : Sl) =>
cl Pg F.zigguratref02_From [v.v] w1 [.one .slice] fun (s : Sl) w2 =>
cl Pg F.zigguratref02_Add [out.v, s.v] w2 [.one .slice] fun (s1 : Sl) w3 =>
bnd (wi (i + 1)) fun n =>
C0 s1 n w3) (
J0 out w1)) Sl.nil 0 w) fun (out1 : Sl) w4 =>
R (out1.v) w4
def Dc.zigguratref02_Sum : Dc := { N := 19, va := [], vb := [], ann := [(2, 0, [(3, .one .slice)]), (3, 3, [(3, .one .slice), (4, .one (.int .i64))])], ext := Xt }
theorem Eq.zigguratref02_Sum (l : Sl) (R : Value → TW → Prop) (w : TW) : denF Pg Dc.zigguratref02_Sum Go.Proofs.Try.f37 (Go.Proofs.Try.f37.body.getD .skip) [l.v] w R = Sh.zigguratref02_Sum l R w := by kernel_rfl
theorem Ct.zigguratref02_Sum {l : Sl} {w : TW} {X : Nat → Prop} {K : Tel (fl [.one .slice]) (TW → Prop)} (h : Sh.zigguratref02_Sum l (Rt X [.one .slice] K w) w.here) : Ct Pg F.zigguratref02_Sum [l.v] w X [.one .slice] K :=
  ct_of_den (D := Dc.zigguratref02_Sum) (fn := Go.Proofs.Try.f37) Xt_ok follows_ok (by kernel_rfl) (by kernel_rfl) (by kernel_rfl) (Eq.mpr (Eq.zigguratref02_Sum l _ _) h)

def Sh.zigguratref02_Small (y : Int) (R : Value → TW → Prop) (w : TW) : Prop :=
nwb w [.int .u64 y] T.uint64 fun b w1 =>
cl Pg F.zigguratref02_From [.slice (some ⟨b, 0, none⟩) 1 1] w1 [.one .slice] fun (s : Sl) w2 =>
R (s.v) w2
def Dc.zigguratref02_Small : Dc := { N := 6, va := [], vb := [], ann := [], ext := Xt }
theorem Eq.zigguratref02_Small (y : Int) (R : Value → TW → Prop) (w : TW) : denF Pg Dc.zigguratref02_Small Go.Proofs.Try.f39 (Go.Proofs.Try.f39.body.getD .skip) [.int .u64 y] w R = Sh.zigguratref02_Small y R w := by kernel_rfl
theorem Ct.zigguratref02_Small {y : Int} {w : TW} {X : Nat → Prop} {K : Tel (fl [.one .slice]) (TW → Prop)} (h : Sh.zigguratref02_Small y (Rt X [.one .slice] K w) w.here) : Ct Pg F.zigguratref02_Small [.int .u64 y] w X [.one .slice] K :=
  ct_of_den (D := Dc.zigguratref02_Small) (fn := Go.Proofs.Try.f39) Xt_ok follows_ok (by kernel_rfl) (by kernel_rfl) (by kernel_rfl) (Eq.mpr (Eq.zigguratref02_Small y _ _) h)

def Sh.zigguratref02_Low (a : Sl) (n : Int) (R : Value → TW → Prop) (w : TW) : Prop :=
cl Pg F.zigguratref02_Shr [a.v, .int .i64 n] w [.one .slice] fun (s : Sl) w1 =>
cl Pg F.zigguratref02_Shl [s.v, .int .i64 n] w1 [.one .slice] fun (s1 : Sl) w2 =>
cl Pg F.zigguratref02_Sub [a.v, s1.v] w2 [.one .slice] fun (s2 : Sl) w3 =>
R (s2.v) w3
def Dc.zigguratref02_Low : Dc := { N := 12, va := [], vb := [], ann := [], ext := Xt }
theorem Eq.zigguratref02_Low (a : Sl) (n : Int) (R : Value → TW → Prop) (w : TW) : denF Pg Dc.zigguratref02_Low Go.Proofs.Try.f42 (Go.Proofs.Try.f42.body.getD .skip) [a.v, .int .i64 n] w R = Sh.zigguratref02_Low a n R w := by kernel_rfl
theorem Ct.zigguratref02_Low {a : Sl} {n : Int} {w : TW} {X : Nat → Prop} {K : Tel (fl [.one .slice]) (TW → Prop)} (h : Sh.zigguratref02_Low a n (Rt X [.one .slice] K w) w.here) : Ct Pg F.zigguratref02_Low [a.v, .int .i64 n] w X [.one .slice] K :=
  ct_of_den (D := Dc.zigguratref02_Low) (fn := Go.Proofs.Try.f42) Xt_ok follows_ok (by kernel_rfl) (by kernel_rfl) (by kernel_rfl) (Eq.mpr (Eq.zigguratref02_Low a n _ _) h)

def Sh.zigguratref02_Shr (a : Sl) (n : Int) (R : Value → TW → Prop) (w : TW) : Prop :=
divK .i64 n 32 fun n1 =>
Jn [.slice] (fun J0 =>
Lp [.slice, .int .i64] (fun (out : Sl) (i : Int) w1 C0 =>
cond (decide ((i : Int) < (a.n : Int))) (
ixa a i 1 fun a1 =>
ldc (.int .u64) w1 a1 fun (v : Int) =>
remK n 32 fun n2 =>
bnd (wu (n2)) fun n3 =>
shrK .u64 v n3 fun n4 =>
bnd (wi (i + 1)) fun n5 =>
Jn [.int .u64] (fun J1 =>
cond (decide ((n5 : Int) < (a.n : Int))) (
bnd (wi (i + 1)) fun n6 =>
ixa a n6 1 fun a2 =>
ldc (.int .u64) w1 a2 fun (v1 : Int) =>
remK n 32 fun n7 =>
bnd (wi (32 - n7)) fun n8 =>
bnd (wu (n8)) fun n9 =>
shlK .u64 v1 n9 fun n10 =>
remK n10 4294967296 fun n11 =>
bnd (wu (n4 + n11)) fun n12 =>
J1 n12 w1) (
J1 n4 w1)) fun (y : Int) w2 =>
remK y 4294967296 fun n13 =>
nwb w2 [.int .u64 n13] T.uint64 fun b w3 =>
apd w3 T.uint64 1 8 out ⟨(some ⟨b, 0, none⟩), 1, 1⟩ fun s w4 =>
bnd (wi (i + 1)) fun n14 =>
C0 s n14 w4) (
J0 out w1)) Sl.nil n1 w) fun (out1 : Sl) w5 =>
cl Pg F.zigguratref02_norm [out1.v] w5 [.one .slice] fun (s1 : Sl) w6 =>
R (s1.v) w6
def Dc.zigguratref02_Shr : Dc := { N := 49, va := [], vb := [], ann := [(2, 0, [(5, .one .slice)]), (3, 3, [(5, .one .slice), (6, .one (.int .i64))]), (1, 7, [(7, .one (.int .u64))])], ext := Xt }
theorem Eq.zigguratref02_Shr (a : Sl) (n : Int) (R : Value → TW → Prop) (w : TW) : denF Pg Dc.zigguratref02_Shr Go.Proofs.Try.f43 (Go.Proofs.Try.f43.body.getD .skip) [a.v, .int .i64 n] w R = Sh.zigguratref02_Shr a n R w := by kernel_rfl
theorem Ct.zigguratref02_Shr {a : Sl} {n : Int} {w : TW} {X : Nat → Prop} {K : Tel (fl [.one .slice]) (TW → Prop)} (h : Sh.zigguratref02_Shr a n (Rt X [.one .slice] K w) w.here) : Ct Pg F.zigguratref02_Shr [a.v, .int .i64 n] w X [.one .slice] K :=
  ct_of_den (D := Dc.zigguratref02_Shr) (fn := Go.Proofs.Try.f43) Xt_ok follows_ok (by kernel_rfl) (by kernel_rfl) (by kernel_rfl) (Eq.mpr (Eq.zigguratref02_Shr a n _ _) h)

def Sh.zigguratref02_Cmp (a : Sl) (b : Sl) (R : Value → TW → Prop) (w : TW) : Prop :=
cond (((a.n : Int) : Int) != (b.n : Int)) (
cond (decide (((a.n : Int) : Int) < (b.n : Int))) (
R (.int .i64 (-1)) w) (
R (.int .i64 1) w)) (
bnd (wi ((a.n : Int) - 1)) fun n =>
Jn [] (fun J0 =>
Lp [.int .i64] (fun (i : Int) w1 C0 =>
cond (decide ((i : Int) ≥ 0)) (
ixa a i 1 fun a1 =>
ldc (.int .u64) w1.drew a1 fun (v : Int) =>
ixa b i 1 fun a2 =>
ldc (.int .u64) w1.drew a2 fun (v1 : Int) =>
cond (decide ((v : Int) < v1)) (
R (.int .i64 (-1)) w1.drew) (
ixa a i 1 fun a3 =>
ldc (.int .u64) w1.drew.drew a3 fun (v2 : Int) =>
ixa b i 1 fun a4 =>
ldc (.int .u64) w1.drew.drew a4 fun (v3 : Int) =>
cond (decide ((v2 : Int) > v3)) (
R (.int .i64 1) w1.drew.drew) (
bnd (wi (i - 1)) fun n1 =>
C0 n1 w1.drew.drew))) (
J0 w1)) n w) fun  w2 =>
R (.int .i64 0) w2)
def Dc.zigguratref02_Cmp : Dc := { N := 41, va := [], vb := [], ann := [(2, 0, []), (3, 6, [(5, .one (.int .i64))])], ext := Xt }
theorem Eq.zigguratref02_Cmp (a : Sl) (b : Sl) (R : Value → TW → Prop) (w : TW) : denF Pg Dc.zigguratref02_Cmp Go.Proofs.Try.f51 (Go.Proofs.Try.f51.body.getD .skip) [a.v, b.v] w R = Sh.zigguratref02_Cmp a b R w := by kernel_rfl
theorem Ct.zigguratref02_Cmp {a : Sl} {b : Sl} {w : TW} {X : Nat → Prop} {K : Tel (fl [.one (.int .i64)]) (TW → Prop)} (h : Sh.zigguratref02_Cmp a b (Rt X [.one (.int .i64)] K w) w.here) : Ct Pg F.zigguratref02_Cmp [a.v, b.v] w X [.one (.int .i64)] K :=
  ct_of_den (D := Dc.zigguratref02_Cmp) (fn := Go.Proofs.Try.f51) Xt_ok follows_ok (by kernel_rfl) (by kernel_rfl) (by kernel_rfl) (Eq.mpr (Eq.zigguratref02_Cmp a b _ _) h)

def Sh.zigguratref02_Sub (a : Sl) (b : Sl) (R : Value → TW → Prop) (w : TW) : Prop :=
mks w 0 (a.n : Int) T.uint64 8 [.int .u64 0] fun s w1 =>
Jn [.slice] (fun J0 =>
Lp [.slice, .int .u64, .int .i64] (fun (out : Sl) (c : Int) (i : Int) w2 C0 =>
cond (decide ((i : Int) < (a.n : Int))) (
Jn [.int .u64] (fun J1 =>
cond (decide ((i : Int) < (b.n : Int))) (
ixa b i 1 fun a1 =>
ldc (.int .u64) w2 a1 fun (v : Int) =>
bnd (wu (c + v)) fun n =>
J1 n w2) (
J1 c w2)) fun (s1 : Int) w3 =>
ixa a i 1 fun a2 =>
ldc (.int .u64) w3 a2 fun (v1 : Int) =>
Jn [.slice, .int .u64] (fun J2 =>
cond (decide ((v1 : Int) ≥ s1)) (
ixa a i 1 fun a3 =>
ldc (.int .u64) w3 a3 fun (v2 : Int) =>
bnd (wu (v2 - s1)) fun n1 =>
nwb w3 [.int .u64 n1] T.uint64 fun b1 w4 =>
apd w4 T.uint64 1 8 out ⟨(some ⟨b1, 0, none⟩), 1, 1⟩ fun s2 w5 =>
J2 s2 0 w5) (
ixa a i 1 fun a4 =>
ldc (.int .u64) w3 a4 fun (v3 : Int) =>
bnd (wu (v3 + 4294967296)) fun n2 =>
bnd (wu (n2 - s1)) fun n3 =>
nwb w3 [.int .u64 n3] T.uint64 fun b2 w6 =>
apd w6 T.uint64 1 8 out ⟨(some ⟨b2, 0, none⟩), 1, 1⟩ fun s3 w7 =>
J2 s3 1 w7)) fun (out1 : Sl) (c1 : Int) w8 =>
bnd (wi (i + 1)) fun n4 =>
C0 out1 c1 n4 w8) (
J0 out w2)) s 0 0 w1) fun (out2 : Sl) w9 =>
cl Pg F.zigguratref02_norm [out2.v] w9 [.one .slice] fun (s4 : Sl) w10 =>
R (s4.v) w10
def Dc.zigguratref02_Sub : Dc := { N := 56, va := [], vb := [], ann := [(2, 0, [(5, .one .slice)]), (3, 4, [(5, .one .slice), (6, .one (.int .u64)), (7, .one (.int .i64))]), (1, 8, [(8, .one (.int .u64))]), (1, 10, [(5, .one .slice), (6, .one (.int .u64))])], ext := Xt }
theorem Eq.zigguratref02_Sub (a : Sl) (b : Sl) (R : Value → TW → Prop) (w : TW) : denF Pg Dc.zigguratref02_Sub Go.Proofs.Try.f52 (Go.Proofs.Try.f52.body.getD .skip) [a.v, b.v] w R = Sh.zigguratref02_Sub a b R w := by kernel_rfl
theorem Ct.zigguratref02_Sub {a : Sl} {b : Sl} {w : TW} {X : Nat → Prop} {K : Tel (fl [.one .slice]) (TW → Prop)} (h : Sh.zigguratref02_Sub a b (Rt X [.one .slice] K w) w.here) : Ct Pg F.zigguratref02_Sub [a.v, b.v] w X [.one .slice] K :=
  ct_of_den (D := Dc.zigguratref02_Sub) (fn := Go.Proofs.Try.f52) Xt_ok follows_ok (by kernel_rfl) (by kernel_rfl) (by kernel_rfl) (Eq.mpr (Eq.zigguratref02_Sub a b _ _) h)

def Sh.zigguratref02_DivMod (a : Sl) (d : Sl) (R : Value → TW → Prop) (w : TW) : Prop :=
cl Pg F.zigguratref02_Cmp [a.v, d.v] w [.one (.int .i64)] fun (r : Int) w1 =>
cond (decide ((r : Int) < 0)) (
R (.tuple #[.slice none 0 0, a.v]) w1) (
bnd (wi ((d.n : Int) + 1)) fun n =>
mks w1 n n T.uint64 8 [.int .u64 0] fun s w2 =>
mks w2 (a.n : Int) (a.n : Int) T.uint64 8 [.int .u64 0] fun s1 w3 =>
cl Pg F.zigguratref02_Bits [a.v] w3 [.one (.int .i64)] fun (r1 : Int) w4 =>
bnd (wi (r1 - 1)) fun n1 =>
Jn [] (fun J0 =>
Lp [.int .i64] (fun (i : Int) w5 C0 =>
cond (decide ((i : Int) ≥ 0)) (
cl Pg F.zigguratref02_bit [a.v, .int .i64 i] w5 [.one (.int .u64)] fun (r2 : Int) w6 =>
cl Pg F.zigguratref02_twice [s.v, .int .u64 r2, d.v] w6 [.one .bool] fun (ok : Bool) w7 =>
Jn [] (fun J1 =>
cond ok (
divK .i64 i 32 fun n2 =>
ixa s1 n2 1 fun a1 =>
ldc (.int .u64) w7 a1 fun (v : Int) =>
remK i 32 fun n3 =>
bnd (wu (n3)) fun n4 =>
shlK .u64 1 n4 fun n5 =>
bnd (bits2 .or .u64 v n5) fun n6 =>
ixa s1 n2 1 fun a2 =>
stc w7 a2 (.int .u64 n6) fun w8 =>
J1 w8) (
J1 w7)) fun  w9 =>
bnd (wi (i - 1)) fun n7 =>
C0 n7 w9) (
J0 w5)) n1 w4) fun  w10 =>
cl Pg F.zigguratref02_norm [s1.v] w10 [.one .slice] fun (s2 : Sl) w11 =>
cl Pg F.zigguratref02_norm [s.v] w11 [.one .slice] fun (s3 : Sl) w12 =>
R (.tuple #[s2.v, s3.v]) w12)
def Dc.zigguratref02_DivMod : Dc := { N := 49, va := [], vb := [], ann := [(2, 0, []), (3, 6, [(8, .one (.int .i64))]), (1, 9, [])], ext := Xt }
theorem Eq.zigguratref02_DivMod (a : Sl) (d : Sl) (R : Value → TW → Prop) (w : TW) : denF Pg Dc.zigguratref02_DivMod Go.Proofs.Try.f61 (Go.Proofs.Try.f61.body.getD .skip) [a.v, d.v] w R = Sh.zigguratref02_DivMod a d R w := by kernel_rfl
theorem Ct.zigguratref02_DivMod {a : Sl} {d : Sl} {w : TW} {X : Nat → Prop} {K : Tel (fl [.one .slice, .one .slice]) (TW → Prop)} (h : Sh.zigguratref02_DivMod a d (Rt X [.one .slice, .one .slice] K w) w.here) : Ct Pg F.zigguratref02_DivMod [a.v, d.v] w X [.one .slice, .one .slice] K :=
  ct_of_den (D := Dc.zigguratref02_DivMod) (fn := Go.Proofs.Try.f61) Xt_ok follows_ok (by kernel_rfl) (by kernel_rfl) (by kernel_rfl) (Eq.mpr (Eq.zigguratref02_DivMod a d _ _) h)

def Sh.zigguratref02_To (a : Sl) (R : Value → TW → Prop) (w : TW) : Prop :=
Jn [.slice] (fun J0 =>
Lp [.slice, .int .i64] (fun (out : Sl) (i : Int) w1 C0 =>
cond (decide ((i : Int) < (a.n : Int))) (
ixa a i 1 fun a1 =>
ldc (.int .u64) w1 a1 fun (v : Int) =>
bnd (wi (i + 1)) fun n =>
Jn [.int .u64] (fun J1 =>
cond (decide ((n : Int) < (a.n : Int))) (
bnd (wi (i + 1)) fun n1 =>
ixa a n1 1 fun a2 =>
ldc (.int .u64) w1 a2 fun (v1 : Int) =>
bnd (wu (v1 * 4294967296)) fun n2 =>
bnd (wu (v + n2)) fun n3 =>
J1 n3 w1) (
J1 v w1)) fun (y : Int) w2 =>
nwb w2 [.int .u64 y] T.uint64 fun b w3 =>
apd w3 T.uint64 1 8 out ⟨(some ⟨b, 0, none⟩), 1, 1⟩ fun s w4 =>
bnd (wi (i + 2)) fun n4 =>
C0 s n4 w4) (
J0 out w1)) Sl.nil 0 w) fun (out1 : Sl) w5 =>
Jn [.slice] (fun J2 =>
Lp [.slice] (fun (out2 : Sl) w6 C1 =>
Jn [.bool] (fun J3 =>
cond (decide (((out2.n : Int) : Int) > 0)) (
bnd (wi ((out2.n : Int) - 1)) fun n5 =>
ixa out2 n5 1 fun a3 =>
ldc (.int .u64) w6 a3 fun (v2 : Int) =>
J3 ((v2 : Int) == 0) w6) (
J3 false w6)) fun (x : Bool) w7 =>
cond x (
bnd (wi ((out2.n : Int) - 1)) fun n6 =>
slc out2 0 n6 1 fun s1 =>
C1 s1 w7) (
J2 out2 w7)) out1 w5) fun (out3 : Sl) w8 =>
R (out3.v) w8
def Dc.zigguratref02_To : Dc := { N := 51, va := [], vb := [], ann := [(2, 0, [(3, .one .slice)]), (3, 3, [(3, .one .slice), (4, .one (.int .i64))]), (1, 7, [(5, .one (.int .u64))]), (2, 2, [(3, .one .slice)]), (3, 9, [(3, .one .slice)]), (0, 9, [(44, .one .bool)])], ext := Xt }
theorem Eq.zigguratref02_To (a : Sl) (R : Value → TW → Prop) (w : TW) : denF Pg Dc.zigguratref02_To Go.Proofs.Try.f65 (Go.Proofs.Try.f65.body.getD .skip) [a.v] w R = Sh.zigguratref02_To a R w := by kernel_rfl
theorem Ct.zigguratref02_To {a : Sl} {w : TW} {X : Nat → Prop} {K : Tel (fl [.one .slice]) (TW → Prop)} (h : Sh.zigguratref02_To a (Rt X [.one .slice] K w) w.here) : Ct Pg F.zigguratref02_To [a.v] w X [.one .slice] K :=
  ct_of_den (D := Dc.zigguratref02_To) (fn := Go.Proofs.Try.f65) Xt_ok follows_ok (by kernel_rfl) (by kernel_rfl) (by kernel_rfl) (Eq.mpr (Eq.zigguratref02_To a _ _) h)

def Sh.zigguratref02_norm (a : Sl) (R : Value → TW → Prop) (w : TW) : Prop :=
Jn [.int .i64] (fun J0 =>
Lp [.int .i64] (fun (k : Int) w1 C0 =>
Jn [.bool] (fun J1 =>
cond (decide ((k : Int) > 0)) (
bnd (wi (k - 1)) fun n =>
ixa a n 1 fun a1 =>
ldc (.int .u64) w1 a1 fun (v : Int) =>
J1 ((v : Int) == 0) w1) (
J1 false w1)) fun (x : Bool) w2 =>
cond x (
bnd (wi (k - 1)) fun n1 =>
C0 n1 w2) (
J0 k w2)) (a.n : Int) w) fun (k1 : Int) w3 =>
slc a 0 k1 1 fun s =>
R (s.v) w3
def Dc.zigguratref02_norm : Dc := { N := 21, va := [], vb := [], ann := [(2, 0, [(3, .one (.int .i64))]), (3, 2, [(3, .one (.int .i64))]), (0, 2, [(15, .one .bool)])], ext := Xt }
theorem Eq.zigguratref02_norm (a : Sl) (R : Value → TW → Prop) (w : TW) : denF Pg Dc.zigguratref02_norm Go.Proofs.Try.f66 (Go.Proofs.Try.f66.body.getD .skip) [a.v] w R = Sh.zigguratref02_norm a R w := by kernel_rfl
theorem Ct.zigguratref02_norm {a : Sl} {w : TW} {X : Nat → Prop} {K : Tel (fl [.one .slice]) (TW → Prop)} (h : Sh.zigguratref02_norm a (Rt X [.one .slice] K w) w.here) : Ct Pg F.zigguratref02_norm [a.v] w X [.one .slice] K :=
  ct_of_den (D := Dc.zigguratref02_norm) (fn := Go.Proofs.Try.f66) Xt_ok follows_ok (by kernel_rfl) (by kernel_rfl) (by kernel_rfl) (Eq.mpr (Eq.zigguratref02_norm a _ _) h)

def Sh.zigguratref02_From (a : Sl) (R : Value → TW → Prop) (w : TW) : Prop :=
bnd (wi (2 * (a.n : Int))) fun n =>
mks w 0 n T.uint64 8 [.int .u64 0] fun s w1 =>
Jn [.slice] (fun J0 =>
Lp [.slice, .int .i64] (fun (out : Sl) (i : Int) w2 C0 =>
cond (decide ((i : Int) < (a.n : Int))) (
ixa a i 1 fun a1 =>
ldc (.int .u64) w2.drew a1 fun (v : Int) =>
remK v 4294967296 fun n1 =>
ixa a i 1 fun a2 =>
ldc (.int .u64) w2.drew a2 fun (v1 : Int) =>
divK .u64 v1 4294967296 fun n2 =>
nwb w2.drew [.int .u64 n1, .int .u64 n2] T.uint64 fun b w3 =>
hld w3 [(a2, .int .u64 v1), (a1, .int .u64 v)] <|
apd w3 T.uint64 1 8 out ⟨(some ⟨b, 0, none⟩), 2, 2⟩ fun s1 w4 =>
hld w4 [(a2, .int .u64 v1), (a1, .int .u64 v)] <|
bnd (wi (i + 1)) fun n3 =>
C0 s1 n3 w4) (
J0 out w2)) s 0 w1) fun (out1 : Sl) w5 =>
cl Pg F.zigguratref02_norm [out1.v] w5 [.one .slice] fun (s2 : Sl) w6 =>
R (s2.v) w6
def Dc.zigguratref02_From : Dc := { N := 30, va := [], vb := [], ann := [(2, 0, [(3, .one .slice)]), (3, 3, [(3, .one .slice), (4, .one (.int .i64))])], ext := Xt }
theorem Eq.zigguratref02_From (a : Sl) (R : Value → TW → Prop) (w : TW) : denF Pg Dc.zigguratref02_From Go.Proofs.Try.f67 (Go.Proofs.Try.f67.body.getD .skip) [a.v] w R = Sh.zigguratref02_From a R w := by kernel_rfl
theorem Ct.zigguratref02_From {a : Sl} {w : TW} {X : Nat → Prop} {K : Tel (fl [.one .slice]) (TW → Prop)} (h : Sh.zigguratref02_From a (Rt X [.one .slice] K w) w.here) : Ct Pg F.zigguratref02_From [a.v] w X [.one .slice] K :=
  ct_of_den (D := Dc.zigguratref02_From) (fn := Go.Proofs.Try.f67) Xt_ok follows_ok (by kernel_rfl) (by kernel_rfl) (by kernel_rfl) (Eq.mpr (Eq.zigguratref02_From a _ _) h)

def Sh.zigguratref02_Bits (a : Sl) (R : Value → TW → Prop) (w : TW) : Prop :=
cond (((a.n : Int) : Int) == 0) (
R (.int .i64 0) w) (
bnd (wi ((a.n : Int) - 1)) fun n =>
bnd (wi (32 * n)) fun n1 =>
bnd (wi ((a.n : Int) - 1)) fun n2 =>
ixa a n2 1 fun a1 =>
ldc (.int .u64) w a1 fun (v : Int) =>
Jn [.int .i64] (fun J0 =>
Lp [.int .i64, .int .u64] (fun (n3 : Int) (y : Int) w1 C0 =>
cond (decide ((y : Int) > 0)) (
bnd (wi (n3 + 1)) fun n4 =>
divK .u64 y 2 fun n5 =>
C0 n4 n5 w1) (
J0 n3 w1)) n1 v w) fun (n6 : Int) w2 =>
R (.int .i64 n6) w2)
def Dc.zigguratref02_Bits : Dc := { N := 25, va := [], vb := [], ann := [(2, 0, [(3, .one (.int .i64))]), (3, 5, [(3, .one (.int .i64)), (4, .one (.int .u64))])], ext := Xt }
theorem Eq.zigguratref02_Bits (a : Sl) (R : Value → TW → Prop) (w : TW) : denF Pg Dc.zigguratref02_Bits Go.Proofs.Try.f73 (Go.Proofs.Try.f73.body.getD .skip) [a.v] w R = Sh.zigguratref02_Bits a R w := by kernel_rfl
theorem Ct.zigguratref02_Bits {a : Sl} {w : TW} {X : Nat → Prop} {K : Tel (fl [.one (.int .i64)]) (TW → Prop)} (h : Sh.zigguratref02_Bits a (Rt X [.one (.int .i64)] K w) w.here) : Ct Pg F.zigguratref02_Bits [a.v] w X [.one (.int .i64)] K :=
  ct_of_den (D := Dc.zigguratref02_Bits) (fn := Go.Proofs.Try.f73) Xt_ok follows_ok (by kernel_rfl) (by kernel_rfl) (by kernel_rfl) (Eq.mpr (Eq.zigguratref02_Bits a _ _) h)

def Sh.zigguratref02_twice (r : Sl) (b : Int) (d : Sl) (R : Value → TW → Prop) (w : TW) : Prop :=
Jn [] (fun J0 =>
Lp [.int .u64, .int .i64] (fun (b1 : Int) (i : Int) w1 C0 =>
cond (decide ((i : Int) < (r.n : Int))) (
ixa r i 1 fun a =>
ldc (.int .u64) w1 a fun (v : Int) =>
bnd (wu (2 * v)) fun n =>
bnd (wu (n + b1)) fun n1 =>
remK n1 4294967296 fun n2 =>
ixa r i 1 fun a1 =>
stc w1 a1 (.int .u64 n2) fun w2 =>
divK .u64 n1 4294967296 fun n3 =>
bnd (wi (i + 1)) fun n4 =>
C0 n3 n4 w2) (
J0 w1)) b 0 w) fun  w3 =>
bnd (wi ((r.n : Int) - 1)) fun n5 =>
Jn [.bool] (fun J1 =>
Lp [.bool, .int .i64] (fun (more : Bool) (i1 : Int) w4 C1 =>
cond (decide ((i1 : Int) ≥ 0)) (
Jn [.int .u64] (fun J2 =>
cond (decide ((i1 : Int) < (d.n : Int))) (
ixa d i1 1 fun a2 =>
ldc (.int .u64) w4 a2 fun (v1 : Int) =>
J2 v1 w4) (
J2 0 w4)) fun (y : Int) w5 =>
ixa r i1 1 fun a3 =>
ldc (.int .u64) w5 a3 fun (v2 : Int) =>
cond ((v2 : Int) != y) (
ixa r i1 1 fun a4 =>
ldc (.int .u64) w5 a4 fun (v3 : Int) =>
J1 (decide ((v3 : Int) > y)) w5) (
bnd (wi (i1 - 1)) fun n6 =>
C1 more n6 w5)) (
J1 more w4)) true n5 w3) fun (more1 : Bool) w6 =>
cond (!more1) (
R (.bool false) w6) (
Jn [] (fun J3 =>
Lp [.int .u64, .int .i64] (fun (c : Int) (i2 : Int) w7 C2 =>
cond (decide ((i2 : Int) < (r.n : Int))) (
Jn [.int .u64] (fun J4 =>
cond (decide ((i2 : Int) < (d.n : Int))) (
ixa d i2 1 fun a5 =>
ldc (.int .u64) w7 a5 fun (v4 : Int) =>
bnd (wu (c + v4)) fun n7 =>
J4 n7 w7) (
J4 c w7)) fun (s : Int) w8 =>
ixa r i2 1 fun a6 =>
ldc (.int .u64) w8 a6 fun (v5 : Int) =>
Jn [.int .u64] (fun J5 =>
cond (decide ((v5 : Int) ≥ s)) (
ixa r i2 1 fun a7 =>
ldc (.int .u64) w8 a7 fun (v6 : Int) =>
bnd (wu (v6 - s)) fun n8 =>
ixa r i2 1 fun a8 =>
stc w8 a8 (.int .u64 n8) fun w9 =>
J5 0 w9) (
ixa r i2 1 fun a9 =>
ldc (.int .u64) w8 a9 fun (v7 : Int) =>
bnd (wu (4294967296 - s)) fun n9 =>
bnd (wu (v7 + n9)) fun n10 =>
ixa r i2 1 fun a10 =>
stc w8 a10 (.int .u64 n10) fun w10 =>
J5 1 w10)) fun (c1 : Int) w11 =>
bnd (wi (i2 + 1)) fun n11 =>
C2 c1 n11 w11) (
J3 w7)) 0 0 w6) fun  w12 =>
R (.bool true) w12)
def Dc.zigguratref02_twice : Dc := { N := 102, va := [], vb := [], ann := [(2, 0, []), (3, 2, [(1, .one (.int .u64)), (7, .one (.int .i64))]), (2, 2, [(9, .one .bool)]), (3, 9, [(9, .one .bool), (10, .one (.int .i64))]), (1, 13, [(11, .one (.int .u64))]), (2, 4, []), (3, 20, [(12, .one (.int .u64)), (13, .one (.int .i64))]), (1, 24, [(14, .one (.int .u64))]), (1, 26, [(12, .one (.int .u64))])], ext := Xt }
theorem Eq.zigguratref02_twice (r : Sl) (b : Int) (d : Sl) (R : Value → TW → Prop) (w : TW) : denF Pg Dc.zigguratref02_twice Go.Proofs.Try.f74 (Go.Proofs.Try.f74.body.getD .skip) [r.v, .int .u64 b, d.v] w R = Sh.zigguratref02_twice r b d R w := by kernel_rfl
theorem Ct.zigguratref02_twice {r : Sl} {b : Int} {d : Sl} {w : TW} {X : Nat → Prop} {K : Tel (fl [.one .bool]) (TW → Prop)} (h : Sh.zigguratref02_twice r b d (Rt X [.one .bool] K w) w.here) : Ct Pg F.zigguratref02_twice [r.v, .int .u64 b, d.v] w X [.one .bool] K :=
  ct_of_den (D := Dc.zigguratref02_twice) (fn := Go.Proofs.Try.f74) Xt_ok follows_ok (by kernel_rfl) (by kernel_rfl) (by kernel_rfl) (Eq.mpr (Eq.zigguratref02_twice r b d _ _) h)

def Sh.zigguratref02_bit (a : Sl) (i : Int) (R : Value → TW → Prop) (w : TW) : Prop :=
divK .i64 i 32 fun n =>
ixa a n 1 fun a1 =>
ldc (.int .u64) w a1 fun (v : Int) =>
remK i 32 fun n1 =>
bnd (wu (n1)) fun n2 =>
shrK .u64 v n2 fun n3 =>
bnd (bits2 .and .u64 n3 1) fun n4 =>
R (.int .u64 n4) w
def Dc.zigguratref02_bit : Dc := { N := 15, va := [], vb := [], ann := [], ext := Xt }
theorem Eq.zigguratref02_bit (a : Sl) (i : Int) (R : Value → TW → Prop) (w : TW) : denF Pg Dc.zigguratref02_bit Go.Proofs.Try.f75 (Go.Proofs.Try.f75.body.getD .skip) [a.v, .int .i64 i] w R = Sh.zigguratref02_bit a i R w := by kernel_rfl
theorem Ct.zigguratref02_bit {a : Sl} {i : Int} {w : TW} {X : Nat → Prop} {K : Tel (fl [.one (.int .u64)]) (TW → Prop)} (h : Sh.zigguratref02_bit a i (Rt X [.one (.int .u64)] K w) w.here) : Ct Pg F.zigguratref02_bit [a.v, .int .i64 i] w X [.one (.int .u64)] K :=
  ct_of_den (D := Dc.zigguratref02_bit) (fn := Go.Proofs.Try.f75) Xt_ok follows_ok (by kernel_rfl) (by kernel_rfl) (by kernel_rfl) (Eq.mpr (Eq.zigguratref02_bit a i _ _) h)
end Go.Proofs.Ythhohfgpaihngaa.Zg
