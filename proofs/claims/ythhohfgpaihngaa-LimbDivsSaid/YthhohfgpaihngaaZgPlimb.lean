/- What each function of Go's package 'limb' does, step by step (its reading), and that its contract follows from that. Written by genseat.py. -/
import Derived.Test.YthhohfgpaihngaaZgX
set_option linter.unusedVariables false
set_option linter.unusedSimpArgs false
set_option linter.unnecessarySimpa false
set_option maxRecDepth 100000
namespace Go.Proofs.Ythhohfgpaihngaa.Zg
def Sh.limb_Join (k : Int) (parts : Sl) (R : Value → TW → Prop) (w : TW) : Prop :=
cl Pg F.limb_within [.int .i64 k, .int .i64 16384] w [.one (.int .i64)] fun (r : Int) w1 =>
Jn [.int .i64] (fun J0 =>
Lp [.int .i64, .int .i64] (fun (n : Int) (x : Int) w2 C0 =>
cond (decide ((x : Int) < (parts.n : Int))) (
ixa parts x 1 fun a =>
ldc (.slice) w2 a fun (v : Sl) =>
cl Pg F.api_Nat_Len [v.v] w2 [.one (.int .i64)] fun (r1 : Int) w3 =>
Jn [.int .i64] (fun J1 =>
cond (decide ((r1 : Int) > 0)) (
bnd (wi (r * x)) fun n1 =>
bnd (wi (n1 + r1)) fun n2 =>
bnd (if (n2 : Int) > n then n2 else n) fun n3 =>
J1 n3 w3) (
J1 n w3)) fun (n4 : Int) w4 =>
bnd (wi (x + 1)) fun n5 =>
C0 n4 n5 w4) (
J0 n w2)) 0 0 w1) fun (n6 : Int) w5 =>
bnd (wi (n6 + 2)) fun n7 =>
mks w5 n7 n7 T.uint64 8 [.int .u64 0] fun s w6 =>
Jn [] (fun J2 =>
Lp [.int .i64] (fun (x1 : Int) w7 C1 =>
cond (decide ((x1 : Int) < (parts.n : Int))) (
ixa parts x1 1 fun a1 =>
ldc (.slice) w7 a1 fun (v1 : Sl) =>
cl Pg F.limb_trim [v1.v] w7 [.one .slice] fun (s1 : Sl) w8 =>
Jn [] (fun J3 =>
Lp [.int .u64, .int .i64] (fun (c : Int) (j : Int) w9 C2 =>
Jn [.bool] (fun J4 =>
cond (decide ((j : Int) < (s1.n : Int))) (
J4 true w9) (
J4 (decide ((c : Int) > 0)) w9)) fun (x2 : Bool) w10 =>
cond x2 (
Jn [.int .u64] (fun J5 =>
cond (decide ((j : Int) < (s1.n : Int))) (
ixa s1 j 1 fun a2 =>
ldc (.int .u64) w10 a2 fun (v2 : Int) =>
J5 v2 w10) (
J5 0 w10)) fun (y : Int) w11 =>
bnd (wi (r * x1)) fun n8 =>
bnd (wi (n8 + j)) fun n9 =>
bnd (wi (r * x1)) fun n10 =>
bnd (wi (n10 + j)) fun n11 =>
ixa s n11 1 fun a3 =>
ldc (.int .u64) w11 a3 fun (v3 : Int) =>
add64 v3 y c fun s2 c1 =>
ixa s n9 1 fun a4 =>
stc w11 a4 (.int .u64 s2) fun w12 =>
bnd (wi (j + 1)) fun n12 =>
C2 c1 n12 w12) (
J3 w10)) 0 0 w8) fun  w13 =>
bnd (wi (x1 + 1)) fun n13 =>
C1 n13 w13) (
J2 w7)) 0 w6) fun  w14 =>
cl Pg F.limb_trim [s.v] w14 [.one .slice] fun (s3 : Sl) w15 =>
R (s3.v) w15
def Dc.limb_Join : Dc := { N := 90, va := [], vb := [], ann := [(2, 0, [(5, .one (.int .i64))]), (3, 4, [(5, .one (.int .i64)), (19, .one (.int .i64))]), (1, 8, [(5, .one (.int .i64))]), (2, 2, []), (3, 12, [(41, .one (.int .i64))]), (2, 4, []), (3, 17, [(12, .one (.int .u64)), (13, .one (.int .i64))]), (0, 17, [(55, .one .bool)]), (1, 21, [(14, .one (.int .u64))])], ext := Xt }
theorem Eq.limb_Join (k : Int) (parts : Sl) (R : Value → TW → Prop) (w : TW) : denF Pg Dc.limb_Join Go.Proofs.Try.f32 (Go.Proofs.Try.f32.body.getD .skip) [.int .i64 k, parts.v] w R = Sh.limb_Join k parts R w := by kernel_rfl
theorem Ct.limb_Join {k : Int} {parts : Sl} {w : TW} {X : Nat → Prop} {K : Tel (fl [.one .slice]) (TW → Prop)} (h : Sh.limb_Join k parts (Rt X [.one .slice] K w) w.here) : Ct Pg F.limb_Join [.int .i64 k, parts.v] w X [.one .slice] K :=
  ct_of_den (D := Dc.limb_Join) (fn := Go.Proofs.Try.f32) Xt_ok follows_ok (by kernel_rfl) (by kernel_rfl) (by kernel_rfl) (Eq.mpr (Eq.limb_Join k parts _ _) h)

def Sh.limb_Sum (l : Sl) (R : Value → TW → Prop) (w : TW) : Prop :=
cl Pg F.limb_Join [.int .i64 0, l.v] w [.one .slice] fun (s : Sl) w1 =>
R (s.v) w1
def Dc.limb_Sum : Dc := { N := 5, va := [], vb := [], ann := [], ext := Xt }
theorem Eq.limb_Sum (l : Sl) (R : Value → TW → Prop) (w : TW) : denF Pg Dc.limb_Sum Go.Proofs.Try.f38 (Go.Proofs.Try.f38.body.getD .skip) [l.v] w R = Sh.limb_Sum l R w := by kernel_rfl
theorem Ct.limb_Sum {l : Sl} {w : TW} {X : Nat → Prop} {K : Tel (fl [.one .slice]) (TW → Prop)} (h : Sh.limb_Sum l (Rt X [.one .slice] K w) w.here) : Ct Pg F.limb_Sum [l.v] w X [.one .slice] K :=
  ct_of_den (D := Dc.limb_Sum) (fn := Go.Proofs.Try.f38) Xt_ok follows_ok (by kernel_rfl) (by kernel_rfl) (by kernel_rfl) (Eq.mpr (Eq.limb_Sum l _ _) h)

def Sh.limb_One (y : Int) (R : Value → TW → Prop) (w : TW) : Prop :=
cond ((y : Int) == 0) (
R (.slice none 0 0) w) (
nwb w [.int .u64 y] T.uint64 fun b w1 =>
R (.slice (some ⟨b, 0, none⟩) 1 1) w1)
def Dc.limb_One : Dc := { N := 7, va := [], vb := [], ann := [], ext := Xt }
theorem Eq.limb_One (y : Int) (R : Value → TW → Prop) (w : TW) : denF Pg Dc.limb_One Go.Proofs.Try.f40 (Go.Proofs.Try.f40.body.getD .skip) [.int .u64 y] w R = Sh.limb_One y R w := by kernel_rfl
theorem Ct.limb_One {y : Int} {w : TW} {X : Nat → Prop} {K : Tel (fl [.one .slice]) (TW → Prop)} (h : Sh.limb_One y (Rt X [.one .slice] K w) w.here) : Ct Pg F.limb_One [.int .u64 y] w X [.one .slice] K :=
  ct_of_den (D := Dc.limb_One) (fn := Go.Proofs.Try.f40) Xt_ok follows_ok (by kernel_rfl) (by kernel_rfl) (by kernel_rfl) (Eq.mpr (Eq.limb_One y _ _) h)

def Sh.limb_Split (a : Sl) (k : Int) (R : Value → TW → Prop) (w : TW) : Prop :=
cl Pg F.limb_within [.int .i64 k, .int .i64 16384] w [.one (.int .i64)] fun (r : Int) w1 =>
cl Pg F.limb_trim [a.v] w1 [.one .slice] fun (s : Sl) w2 =>
cond (decide ((r : Int) ≥ (s.n : Int))) (
apd w2 T.uint64 1 8 Sl.nil s fun s1 w3 =>
R (.tuple #[s1.v, .slice none 0 0]) w3) (
slc s 0 r 1 fun s2 =>
slc s r (s.n : Nat) 1 fun s3 =>
cl Pg F.limb_Norm [s2.v] w2.drew [.one .slice] fun (s4 : Sl) w4 =>
apd w4 T.uint64 1 8 Sl.nil s3 fun s5 w5 =>
R (.tuple #[s4.v, s5.v]) w5)
def Dc.limb_Split : Dc := { N := 24, va := [], vb := [], ann := [], ext := Xt }
theorem Eq.limb_Split (a : Sl) (k : Int) (R : Value → TW → Prop) (w : TW) : denF Pg Dc.limb_Split Go.Proofs.Try.f41 (Go.Proofs.Try.f41.body.getD .skip) [a.v, .int .i64 k] w R = Sh.limb_Split a k R w := by kernel_rfl
theorem Ct.limb_Split {a : Sl} {k : Int} {w : TW} {X : Nat → Prop} {K : Tel (fl [.one .slice, .one .slice]) (TW → Prop)} (h : Sh.limb_Split a k (Rt X [.one .slice, .one .slice] K w) w.here) : Ct Pg F.limb_Split [a.v, .int .i64 k] w X [.one .slice, .one .slice] K :=
  ct_of_den (D := Dc.limb_Split) (fn := Go.Proofs.Try.f41) Xt_ok follows_ok (by kernel_rfl) (by kernel_rfl) (by kernel_rfl) (Eq.mpr (Eq.limb_Split a k _ _) h)

def Sh.limb_Cmp (a : Sl) (b : Sl) (R : Value → TW → Prop) (w : TW) : Prop :=
cl Pg F.api_Nat_Len [a.v] w [.one (.int .i64)] fun (r : Int) w1 =>
cl Pg F.api_Nat_Len [b.v] w1 [.one (.int .i64)] fun (r1 : Int) w2 =>
cond ((r : Int) != r1) (
cond (decide ((r : Int) < r1)) (
R (.int .i64 (-1)) w2) (
R (.int .i64 1) w2)) (
bnd (wi (r - 1)) fun n =>
Jn [] (fun J0 =>
Lp [.int .i64] (fun (i : Int) w3 C0 =>
cond (decide ((i : Int) ≥ 0)) (
ixa a i 1 fun a1 =>
ldc (.int .u64) w3.drew a1 fun (v : Int) =>
ixa b i 1 fun a2 =>
ldc (.int .u64) w3.drew a2 fun (v1 : Int) =>
cond ((v : Int) != v1) (
ixa a i 1 fun a3 =>
ldc (.int .u64) w3.drew.drew a3 fun (v2 : Int) =>
ixa b i 1 fun a4 =>
ldc (.int .u64) w3.drew.drew a4 fun (v3 : Int) =>
cond (decide ((v2 : Int) < v3)) (
R (.int .i64 (-1)) w3.drew.drew) (
R (.int .i64 1) w3.drew.drew)) (
bnd (wi (i - 1)) fun n1 =>
C0 n1 w3.drew)) (
J0 w3)) n w2) fun  w4 =>
R (.int .i64 0) w4)
def Dc.limb_Cmp : Dc := { N := 42, va := [], vb := [], ann := [(2, 0, []), (3, 7, [(7, .one (.int .i64))])], ext := Xt }
theorem Eq.limb_Cmp (a : Sl) (b : Sl) (R : Value → TW → Prop) (w : TW) : denF Pg Dc.limb_Cmp Go.Proofs.Try.f44 (Go.Proofs.Try.f44.body.getD .skip) [a.v, b.v] w R = Sh.limb_Cmp a b R w := by kernel_rfl
theorem Ct.limb_Cmp {a : Sl} {b : Sl} {w : TW} {X : Nat → Prop} {K : Tel (fl [.one (.int .i64)]) (TW → Prop)} (h : Sh.limb_Cmp a b (Rt X [.one (.int .i64)] K w) w.here) : Ct Pg F.limb_Cmp [a.v, b.v] w X [.one (.int .i64)] K :=
  ct_of_den (D := Dc.limb_Cmp) (fn := Go.Proofs.Try.f44) Xt_ok follows_ok (by kernel_rfl) (by kernel_rfl) (by kernel_rfl) (Eq.mpr (Eq.limb_Cmp a b _ _) h)

def Sh.limb_Add (a : Sl) (b : Sl) (R : Value → TW → Prop) (w : TW) : Prop :=
cl Pg F.limb_trim [a.v] w [.one .slice] fun (s : Sl) w1 =>
cl Pg F.limb_trim [b.v] w1 [.one .slice] fun (s1 : Sl) w2 =>
Jn [.slice, .slice] (fun J0 =>
cond (decide (((s.n : Int) : Int) < (s1.n : Int))) (
J0 s1 s w2) (
J0 s s1 w2)) fun (a1 : Sl) (b1 : Sl) w3 =>
bnd (wi ((a1.n : Int) + 1)) fun n =>
mks w3 n n T.uint64 8 [.int .u64 0] fun s2 w4 =>
Jn [.int .u64] (fun J1 =>
Lp [.int .u64, .int .i64] (fun (c : Int) (x : Int) w5 C0 =>
cond (decide ((x : Int) < (a1.n : Int))) (
Jn [.int .u64] (fun J2 =>
cond (decide ((x : Int) < (b1.n : Int))) (
ixa b1 x 1 fun a2 =>
ldc (.int .u64) w5 a2 fun (v : Int) =>
J2 v w5) (
J2 0 w5)) fun (y : Int) w6 =>
ixa a1 x 1 fun a3 =>
ldc (.int .u64) w6 a3 fun (v1 : Int) =>
add64 v1 y c fun s3 c1 =>
ixa s2 x 1 fun a4 =>
stc w6 a4 (.int .u64 s3) fun w7 =>
bnd (wi (x + 1)) fun n1 =>
C0 c1 n1 w7) (
J1 c w5)) 0 0 w4) fun (c2 : Int) w8 =>
ixa s2 (a1.n : Int) 1 fun a5 =>
stc w8 a5 (.int .u64 c2) fun w9 =>
cl Pg F.limb_trim [s2.v] w9 [.one .slice] fun (s4 : Sl) w10 =>
R (s4.v) w10
def Dc.limb_Add : Dc := { N := 58, va := [], vb := [], ann := [(1, 3, [(0, .one .slice), (1, .one .slice)]), (2, 0, [(6, .one (.int .u64))]), (3, 7, [(6, .one (.int .u64)), (26, .one (.int .i64))]), (1, 11, [(8, .one (.int .u64))])], ext := Xt }
theorem Eq.limb_Add (a : Sl) (b : Sl) (R : Value → TW → Prop) (w : TW) : denF Pg Dc.limb_Add Go.Proofs.Try.f49 (Go.Proofs.Try.f49.body.getD .skip) [a.v, b.v] w R = Sh.limb_Add a b R w := by kernel_rfl
theorem Ct.limb_Add {a : Sl} {b : Sl} {w : TW} {X : Nat → Prop} {K : Tel (fl [.one .slice]) (TW → Prop)} (h : Sh.limb_Add a b (Rt X [.one .slice] K w) w.here) : Ct Pg F.limb_Add [a.v, b.v] w X [.one .slice] K :=
  ct_of_den (D := Dc.limb_Add) (fn := Go.Proofs.Try.f49) Xt_ok follows_ok (by kernel_rfl) (by kernel_rfl) (by kernel_rfl) (Eq.mpr (Eq.limb_Add a b _ _) h)

def Sh.limb_Sub (a : Sl) (b : Sl) (R : Value → TW → Prop) (w : TW) : Prop :=
cl Pg F.limb_trim [a.v] w [.one .slice] fun (s : Sl) w1 =>
cl Pg F.limb_trim [b.v] w1 [.one .slice] fun (s1 : Sl) w2 =>
cl Pg F.limb_Cmp [s.v, s1.v] w2 [.one (.int .i64)] fun (r : Int) w3 =>
cond (decide ((r : Int) < 0)) (
R (.tuple #[.slice none 0 0, .bool false]) w3) (
mks w3 (s.n : Int) (s.n : Int) T.uint64 8 [.int .u64 0] fun s2 w4 =>
Jn [] (fun J0 =>
Lp [.int .u64, .int .i64] (fun (c : Int) (x : Int) w5 C0 =>
cond (decide ((x : Int) < (s.n : Int))) (
Jn [.int .u64] (fun J1 =>
cond (decide ((x : Int) < (s1.n : Int))) (
ixa s1 x 1 fun a1 =>
ldc (.int .u64) w5 a1 fun (v : Int) =>
J1 v w5) (
J1 0 w5)) fun (y : Int) w6 =>
ixa s x 1 fun a2 =>
ldc (.int .u64) w6 a2 fun (v1 : Int) =>
sub64 v1 y c fun s3 c1 =>
ixa s2 x 1 fun a3 =>
stc w6 a3 (.int .u64 s3) fun w7 =>
bnd (wi (x + 1)) fun n =>
C0 c1 n w7) (
J0 w5)) 0 0 w4) fun  w8 =>
cl Pg F.limb_trim [s2.v] w8 [.one .slice] fun (s4 : Sl) w9 =>
R (.tuple #[s4.v, .bool true]) w9)
def Dc.limb_Sub : Dc := { N := 50, va := [], vb := [], ann := [(2, 0, []), (3, 7, [(7, .one (.int .u64)), (23, .one (.int .i64))]), (1, 11, [(9, .one (.int .u64))])], ext := Xt }
theorem Eq.limb_Sub (a : Sl) (b : Sl) (R : Value → TW → Prop) (w : TW) : denF Pg Dc.limb_Sub Go.Proofs.Try.f50 (Go.Proofs.Try.f50.body.getD .skip) [a.v, b.v] w R = Sh.limb_Sub a b R w := by kernel_rfl
theorem Ct.limb_Sub {a : Sl} {b : Sl} {w : TW} {X : Nat → Prop} {K : Tel (fl [.one .slice, .one .bool]) (TW → Prop)} (h : Sh.limb_Sub a b (Rt X [.one .slice, .one .bool] K w) w.here) : Ct Pg F.limb_Sub [a.v, b.v] w X [.one .slice, .one .bool] K :=
  ct_of_den (D := Dc.limb_Sub) (fn := Go.Proofs.Try.f50) Xt_ok follows_ok (by kernel_rfl) (by kernel_rfl) (by kernel_rfl) (Eq.mpr (Eq.limb_Sub a b _ _) h)

def Sh.limb_Norm (a : Sl) (R : Value → TW → Prop) (w : TW) : Prop :=
cl Pg F.limb_trim [a.v] w [.one .slice] fun (s : Sl) w1 =>
apd w1 T.uint64 1 8 Sl.nil s fun s1 w2 =>
R (s1.v) w2
def Dc.limb_Norm : Dc := { N := 6, va := [], vb := [], ann := [], ext := Xt }
theorem Eq.limb_Norm (a : Sl) (R : Value → TW → Prop) (w : TW) : denF Pg Dc.limb_Norm Go.Proofs.Try.f53 (Go.Proofs.Try.f53.body.getD .skip) [a.v] w R = Sh.limb_Norm a R w := by kernel_rfl
theorem Ct.limb_Norm {a : Sl} {w : TW} {X : Nat → Prop} {K : Tel (fl [.one .slice]) (TW → Prop)} (h : Sh.limb_Norm a (Rt X [.one .slice] K w) w.here) : Ct Pg F.limb_Norm [a.v] w X [.one .slice] K :=
  ct_of_den (D := Dc.limb_Norm) (fn := Go.Proofs.Try.f53) Xt_ok follows_ok (by kernel_rfl) (by kernel_rfl) (by kernel_rfl) (Eq.mpr (Eq.limb_Norm a _ _) h)

def Sh.limb_MulWord (a : Sl) (y : Int) (R : Value → TW → Prop) (w : TW) : Prop :=
cl Pg F.limb_AddMul [.slice none 0 0, a.v, .int .u64 y] w [.one .slice] fun (s : Sl) w1 =>
R (s.v) w1
def Dc.limb_MulWord : Dc := { N := 8, va := [], vb := [], ann := [], ext := Xt }
theorem Eq.limb_MulWord (a : Sl) (y : Int) (R : Value → TW → Prop) (w : TW) : denF Pg Dc.limb_MulWord Go.Proofs.Try.f54 (Go.Proofs.Try.f54.body.getD .skip) [a.v, .int .u64 y] w R = Sh.limb_MulWord a y R w := by kernel_rfl
theorem Ct.limb_MulWord {a : Sl} {y : Int} {w : TW} {X : Nat → Prop} {K : Tel (fl [.one .slice]) (TW → Prop)} (h : Sh.limb_MulWord a y (Rt X [.one .slice] K w) w.here) : Ct Pg F.limb_MulWord [a.v, .int .u64 y] w X [.one .slice] K :=
  ct_of_den (D := Dc.limb_MulWord) (fn := Go.Proofs.Try.f54) Xt_ok follows_ok (by kernel_rfl) (by kernel_rfl) (by kernel_rfl) (Eq.mpr (Eq.limb_MulWord a y _ _) h)

def Sh.limb_AddMul (a : Sl) (b : Sl) (y : Int) (R : Value → TW → Prop) (w : TW) : Prop :=
cl Pg F.limb_trim [a.v] w [.one .slice] fun (s : Sl) w1 =>
cl Pg F.limb_trim [b.v] w1 [.one .slice] fun (s1 : Sl) w2 =>
bnd (wi ((s1.n : Int) + 1)) fun n =>
bnd (if (n : Int) > (s.n : Int) then n else (s.n : Int)) fun n1 =>
bnd (wi (n1 + 1)) fun n2 =>
mks w2 n2 n2 T.uint64 8 [.int .u64 0] fun s2 w3 =>
cpy w3 T.uint64 s2 s fun _ w4 =>
Jn [] (fun J0 =>
Lp [.int .u64, .int .i64] (fun (c : Int) (x : Int) w5 C0 =>
cond (decide ((x : Int) < (s2.n : Int))) (
Jn [.bool] (fun J1 =>
cond (decide ((x : Int) ≥ (s1.n : Int))) (
J1 ((c : Int) == 0) w5) (
J1 false w5)) fun (x1 : Bool) w6 =>
cond x1 (
J0 w6) (
Jn [.int .u64, .int .u64] (fun J2 =>
cond (decide ((x : Int) < (s1.n : Int))) (
ixa s1 x 1 fun a1 =>
ldc (.int .u64) w6 a1 fun (v : Int) =>
cl Pg F.bits_Mul64 [.int .u64 v, .int .u64 y] w6 [.one (.int .u64), .one (.int .u64)] fun (r : Int) (r1 : Int) w7 =>
J2 r r1 w7) (
J2 0 0 w6)) fun (hi : Int) (lo : Int) w8 =>
add64 lo c 0 fun s3 c1 =>
bnd (wu (hi + c1)) fun n4 =>
ixa s2 x 1 fun a2 =>
ldc (.int .u64) w8 a2 fun (v1 : Int) =>
add64 v1 s3 0 fun s4 c2 =>
ixa s2 x 1 fun a3 =>
stc w8 a3 (.int .u64 s4) fun w9 =>
bnd (wu (n4 + c2)) fun n5 =>
bnd (wi (x + 1)) fun n6 =>
C0 n5 n6 w9)) (
J0 w5)) 0 0 w4) fun  w10 =>
cl Pg F.limb_trim [s2.v] w10 [.one .slice] fun (s5 : Sl) w11 =>
R (s5.v) w11
def Dc.limb_AddMul : Dc := { N := 82, va := [], vb := [], ann := [(2, 0, []), (3, 6, [(8, .one (.int .u64)), (31, .one (.int .i64))]), (0, 8, [(41, .one .bool)]), (1, 11, [(10, .one (.int .u64)), (11, .one (.int .u64))])], ext := Xt }
theorem Eq.limb_AddMul (a : Sl) (b : Sl) (y : Int) (R : Value → TW → Prop) (w : TW) : denF Pg Dc.limb_AddMul Go.Proofs.Try.f55 (Go.Proofs.Try.f55.body.getD .skip) [a.v, b.v, .int .u64 y] w R = Sh.limb_AddMul a b y R w := by kernel_rfl
theorem Ct.limb_AddMul {a : Sl} {b : Sl} {y : Int} {w : TW} {X : Nat → Prop} {K : Tel (fl [.one .slice]) (TW → Prop)} (h : Sh.limb_AddMul a b y (Rt X [.one .slice] K w) w.here) : Ct Pg F.limb_AddMul [a.v, b.v, .int .u64 y] w X [.one .slice] K :=
  ct_of_den (D := Dc.limb_AddMul) (fn := Go.Proofs.Try.f55) Xt_ok follows_ok (by kernel_rfl) (by kernel_rfl) (by kernel_rfl) (Eq.mpr (Eq.limb_AddMul a b y _ _) h)

def Sh.limb_SubMul (a : Sl) (b : Sl) (y : Int) (R : Value → TW → Prop) (w : TW) : Prop :=
cl Pg F.limb_MulWord [b.v, .int .u64 y] w [.one .slice] fun (s : Sl) w1 =>
cl Pg F.limb_Sub [a.v, s.v] w1 [.one .slice, .one .bool] fun (s1 : Sl) (ok : Bool) w2 =>
R (.tuple #[s1.v, .bool ok]) w2
def Dc.limb_SubMul : Dc := { N := 15, va := [], vb := [], ann := [], ext := Xt }
theorem Eq.limb_SubMul (a : Sl) (b : Sl) (y : Int) (R : Value → TW → Prop) (w : TW) : denF Pg Dc.limb_SubMul Go.Proofs.Try.f56 (Go.Proofs.Try.f56.body.getD .skip) [a.v, b.v, .int .u64 y] w R = Sh.limb_SubMul a b y R w := by kernel_rfl
theorem Ct.limb_SubMul {a : Sl} {b : Sl} {y : Int} {w : TW} {X : Nat → Prop} {K : Tel (fl [.one .slice, .one .bool]) (TW → Prop)} (h : Sh.limb_SubMul a b y (Rt X [.one .slice, .one .bool] K w) w.here) : Ct Pg F.limb_SubMul [a.v, b.v, .int .u64 y] w X [.one .slice, .one .bool] K :=
  ct_of_den (D := Dc.limb_SubMul) (fn := Go.Proofs.Try.f56) Xt_ok follows_ok (by kernel_rfl) (by kernel_rfl) (by kernel_rfl) (Eq.mpr (Eq.limb_SubMul a b y _ _) h)

def Sh.limb_Shl (a : Sl) (n : Int) (R : Value → TW → Prop) (w : TW) : Prop :=
cl Pg F.limb_within [.int .i64 n, .int .i64 1048576] w [.one (.int .i64)] fun (r : Int) w1 =>
cl Pg F.limb_trim [a.v] w1 [.one .slice] fun (s : Sl) w2 =>
cond (((s.n : Int) : Int) == 0) (
R (.slice none 0 0) w2) (
divK .i64 r 64 fun n1 =>
remK r 64 fun n2 =>
bnd (wu (n2)) fun n3 =>
bnd (wi ((s.n : Int) + n1)) fun n4 =>
bnd (wi (n4 + 1)) fun n5 =>
mks w2 n5 n5 T.uint64 8 [.int .u64 0] fun s1 w3 =>
Jn [] (fun J0 =>
Lp [.int .i64] (fun (x : Int) w4 C0 =>
cond (decide ((x : Int) < (s.n : Int))) (
ixa s x 1 fun a1 =>
ldc (.int .u64) w4 a1 fun (v : Int) =>
bnd (wi (x + n1)) fun n6 =>
bnd (wi (x + n1)) fun n7 =>
ixa s1 n7 1 fun a2 =>
ldc (.int .u64) w4 a2 fun (v1 : Int) =>
shlK .u64 v n3 fun n8 =>
bnd (bits2 .or .u64 v1 n8) fun n9 =>
ixa s1 n6 1 fun a3 =>
stc w4 a3 (.int .u64 n9) fun w5 =>
Jn [] (fun J1 =>
cond (decide ((n3 : Int) > 0)) (
bnd (wi (x + n1)) fun n10 =>
bnd (wi (n10 + 1)) fun n11 =>
bnd (wu (64 - n3)) fun n12 =>
shrK .u64 v n12 fun n13 =>
ixa s1 n11 1 fun a4 =>
stc w5 a4 (.int .u64 n13) fun w6 =>
J1 w6) (
J1 w5)) fun  w7 =>
bnd (wi (x + 1)) fun n14 =>
C0 n14 w7) (
J0 w4)) 0 w3) fun  w8 =>
cl Pg F.limb_trim [s1.v] w8 [.one .slice] fun (s2 : Sl) w9 =>
R (s2.v) w9)
def Dc.limb_Shl : Dc := { N := 65, va := [], vb := [], ann := [(2, 0, []), (3, 8, [(30, .one (.int .i64))]), (1, 12, [])], ext := Xt }
theorem Eq.limb_Shl (a : Sl) (n : Int) (R : Value → TW → Prop) (w : TW) : denF Pg Dc.limb_Shl Go.Proofs.Try.f57 (Go.Proofs.Try.f57.body.getD .skip) [a.v, .int .i64 n] w R = Sh.limb_Shl a n R w := by kernel_rfl
theorem Ct.limb_Shl {a : Sl} {n : Int} {w : TW} {X : Nat → Prop} {K : Tel (fl [.one .slice]) (TW → Prop)} (h : Sh.limb_Shl a n (Rt X [.one .slice] K w) w.here) : Ct Pg F.limb_Shl [a.v, .int .i64 n] w X [.one .slice] K :=
  ct_of_den (D := Dc.limb_Shl) (fn := Go.Proofs.Try.f57) Xt_ok follows_ok (by kernel_rfl) (by kernel_rfl) (by kernel_rfl) (Eq.mpr (Eq.limb_Shl a n _ _) h)

def Sh.limb_Shr (a : Sl) (n : Int) (R : Value → TW → Prop) (w : TW) : Prop :=
cl Pg F.limb_within [.int .i64 n, .int .i64 1048576] w [.one (.int .i64)] fun (r : Int) w1 =>
cl Pg F.limb_trim [a.v] w1 [.one .slice] fun (s : Sl) w2 =>
divK .i64 r 64 fun n1 =>
remK r 64 fun n2 =>
bnd (wu (n2)) fun n3 =>
cond (decide ((n1 : Int) ≥ (s.n : Int))) (
R (.slice none 0 0) w2) (
bnd (wi ((s.n : Int) - n1)) fun n4 =>
mks w2 n4 n4 T.uint64 8 [.int .u64 0] fun s1 w3 =>
Jn [] (fun J0 =>
Lp [.int .i64] (fun (x : Int) w4 C0 =>
cond (decide ((x : Int) < (s1.n : Int))) (
bnd (wi (x + n1)) fun n5 =>
ixa s n5 1 fun a1 =>
ldc (.int .u64) w4 a1 fun (v : Int) =>
shrK .u64 v n3 fun n6 =>
ixa s1 x 1 fun a2 =>
stc w4 a2 (.int .u64 n6) fun w5 =>
Jn [.bool] (fun J1 =>
cond (decide ((n3 : Int) > 0)) (
bnd (wi (x + n1)) fun n7 =>
bnd (wi (n7 + 1)) fun n8 =>
J1 (decide ((n8 : Int) < (s.n : Int))) w5) (
J1 false w5)) fun (x1 : Bool) w6 =>
Jn [] (fun J2 =>
cond x1 (
ixa s1 x 1 fun a3 =>
ldc (.int .u64) w6.drew a3 fun (v1 : Int) =>
bnd (wi (x + n1)) fun n9 =>
bnd (wi (n9 + 1)) fun n10 =>
ixa s n10 1 fun a4 =>
ldc (.int .u64) w6.drew a4 fun (v2 : Int) =>
bnd (wu (64 - n3)) fun n11 =>
shlK .u64 v2 n11 fun n12 =>
bnd (bits2 .or .u64 v1 n12) fun n13 =>
ixa s1 x 1 fun a5 =>
stc w6.drew a5 (.int .u64 n13) fun w7 =>
J2 w7) (
J2 w6)) fun  w8 =>
bnd (wi (x + 1)) fun n14 =>
C0 n14 w8) (
J0 w4)) 0 w3) fun  w9 =>
cl Pg F.limb_trim [s1.v] w9 [.one .slice] fun (s2 : Sl) w10 =>
R (s2.v) w10)
def Dc.limb_Shr : Dc := { N := 75, va := [], vb := [], ann := [(2, 0, []), (3, 8, [(29, .one (.int .i64))]), (0, 11, [(53, .one .bool)]), (1, 12, [])], ext := Xt }
theorem Eq.limb_Shr (a : Sl) (n : Int) (R : Value → TW → Prop) (w : TW) : denF Pg Dc.limb_Shr Go.Proofs.Try.f58 (Go.Proofs.Try.f58.body.getD .skip) [a.v, .int .i64 n] w R = Sh.limb_Shr a n R w := by kernel_rfl
theorem Ct.limb_Shr {a : Sl} {n : Int} {w : TW} {X : Nat → Prop} {K : Tel (fl [.one .slice]) (TW → Prop)} (h : Sh.limb_Shr a n (Rt X [.one .slice] K w) w.here) : Ct Pg F.limb_Shr [a.v, .int .i64 n] w X [.one .slice] K :=
  ct_of_den (D := Dc.limb_Shr) (fn := Go.Proofs.Try.f58) Xt_ok follows_ok (by kernel_rfl) (by kernel_rfl) (by kernel_rfl) (Eq.mpr (Eq.limb_Shr a n _ _) h)

def Sh.limb_Low (a : Sl) (n : Int) (R : Value → TW → Prop) (w : TW) : Prop :=
cl Pg F.limb_within [.int .i64 n, .int .i64 1048576] w [.one (.int .i64)] fun (r : Int) w1 =>
cl Pg F.limb_trim [a.v] w1 [.one .slice] fun (s : Sl) w2 =>
divK .i64 r 64 fun n1 =>
remK r 64 fun n2 =>
bnd (wu (n2)) fun n3 =>
cond (decide ((n1 : Int) ≥ (s.n : Int))) (
apd w2 T.uint64 1 8 Sl.nil s fun s1 w3 =>
R (s1.v) w3) (
slc s 0 n1 1 fun s2 =>
apd w2 T.uint64 1 8 Sl.nil s2 fun s3 w4 =>
Jn [.slice] (fun J0 =>
cond (decide ((n3 : Int) > 0)) (
ixa s n1 1 fun a1 =>
ldc (.int .u64) w4 a1 fun (v : Int) =>
shlK .u64 1 n3 fun n4 =>
bnd (wu (n4 - 1)) fun n5 =>
bnd (bits2 .and .u64 v n5) fun n6 =>
nwb w4 [.int .u64 n6] T.uint64 fun b w5 =>
apd w5 T.uint64 1 8 s3 ⟨(some ⟨b, 0, none⟩), 1, 1⟩ fun s4 w6 =>
J0 s4 w6) (
J0 s3 w4)) fun (out : Sl) w7 =>
cl Pg F.limb_trim [out.v] w7 [.one .slice] fun (s5 : Sl) w8 =>
R (s5.v) w8)
def Dc.limb_Low : Dc := { N := 42, va := [], vb := [], ann := [(1, 8, [(7, .one .slice)])], ext := Xt }
theorem Eq.limb_Low (a : Sl) (n : Int) (R : Value → TW → Prop) (w : TW) : denF Pg Dc.limb_Low Go.Proofs.Try.f59 (Go.Proofs.Try.f59.body.getD .skip) [a.v, .int .i64 n] w R = Sh.limb_Low a n R w := by kernel_rfl
theorem Ct.limb_Low {a : Sl} {n : Int} {w : TW} {X : Nat → Prop} {K : Tel (fl [.one .slice]) (TW → Prop)} (h : Sh.limb_Low a n (Rt X [.one .slice] K w) w.here) : Ct Pg F.limb_Low [a.v, .int .i64 n] w X [.one .slice] K :=
  ct_of_den (D := Dc.limb_Low) (fn := Go.Proofs.Try.f59) Xt_ok follows_ok (by kernel_rfl) (by kernel_rfl) (by kernel_rfl) (Eq.mpr (Eq.limb_Low a n _ _) h)

def Sh.limb_DivWord (a : Sl) (y : Int) (R : Value → TW → Prop) (w : TW) : Prop :=
cond ((y : Int) == 0) (
R (.tuple #[.slice none 0 0, .int .u64 0, .int .i64 2]) w) (
cl Pg F.limb_trim [a.v] w [.one .slice] fun (s : Sl) w1 =>
mks w1 (s.n : Int) (s.n : Int) T.uint64 8 [.int .u64 0] fun s1 w2 =>
bnd (wi ((s.n : Int) - 1)) fun n =>
Jn [.int .u64] (fun J0 =>
Lp [.int .u64, .int .i64] (fun (r : Int) (i : Int) w3 C0 =>
cond (decide ((i : Int) ≥ 0)) (
ixa s i 1 fun a1 =>
ldc (.int .u64) w3 a1 fun (v : Int) =>
cl Pg F.bits_Div64 [.int .u64 r, .int .u64 v, .int .u64 y] w3 [.one (.int .u64), .one (.int .u64)] fun (r1 : Int) (r2 : Int) w4 =>
ixa s1 i 1 fun a2 =>
stc w4 a2 (.int .u64 r1) fun w5 =>
bnd (wi (i - 1)) fun n1 =>
C0 r2 n1 w5) (
J0 r w3)) 0 n w2) fun (r3 : Int) w6 =>
cl Pg F.limb_trim [s1.v] w6 [.one .slice] fun (s2 : Sl) w7 =>
R (.tuple #[s2.v, .int .u64 r3, .int .i64 0]) w7)
def Dc.limb_DivWord : Dc := { N := 40, va := [], vb := [], ann := [(2, 0, [(8, .one (.int .u64))]), (3, 7, [(8, .one (.int .u64)), (9, .one (.int .i64))])], ext := Xt }
theorem Eq.limb_DivWord (a : Sl) (y : Int) (R : Value → TW → Prop) (w : TW) : denF Pg Dc.limb_DivWord Go.Proofs.Try.f60 (Go.Proofs.Try.f60.body.getD .skip) [a.v, .int .u64 y] w R = Sh.limb_DivWord a y R w := by kernel_rfl
theorem Ct.limb_DivWord {a : Sl} {y : Int} {w : TW} {X : Nat → Prop} {K : Tel (fl [.one .slice, .one (.int .u64), .one (.int .i64)]) (TW → Prop)} (h : Sh.limb_DivWord a y (Rt X [.one .slice, .one (.int .u64), .one (.int .i64)] K w) w.here) : Ct Pg F.limb_DivWord [a.v, .int .u64 y] w X [.one .slice, .one (.int .u64), .one (.int .i64)] K :=
  ct_of_den (D := Dc.limb_DivWord) (fn := Go.Proofs.Try.f60) Xt_ok follows_ok (by kernel_rfl) (by kernel_rfl) (by kernel_rfl) (Eq.mpr (Eq.limb_DivWord a y _ _) h)

def Sh.limb_within (n : Int) (most : Int) (R : Value → TW → Prop) (w : TW) : Prop :=
bnd (if (most : Int) < n then most else n) fun n1 =>
bnd (if (n1 : Int) > 0 then n1 else 0) fun n2 =>
R (.int .i64 n2) w
def Dc.limb_within : Dc := { N := 9, va := [], vb := [], ann := [], ext := Xt }
theorem Eq.limb_within (n : Int) (most : Int) (R : Value → TW → Prop) (w : TW) : denF Pg Dc.limb_within Go.Proofs.Try.f68 (Go.Proofs.Try.f68.body.getD .skip) [.int .i64 n, .int .i64 most] w R = Sh.limb_within n most R w := by kernel_rfl
theorem Ct.limb_within {n : Int} {most : Int} {w : TW} {X : Nat → Prop} {K : Tel (fl [.one (.int .i64)]) (TW → Prop)} (h : Sh.limb_within n most (Rt X [.one (.int .i64)] K w) w.here) : Ct Pg F.limb_within [.int .i64 n, .int .i64 most] w X [.one (.int .i64)] K :=
  ct_of_den (D := Dc.limb_within) (fn := Go.Proofs.Try.f68) Xt_ok follows_ok (by kernel_rfl) (by kernel_rfl) (by kernel_rfl) (Eq.mpr (Eq.limb_within n most _ _) h)

def Sh.limb_trim (a : Sl) (R : Value → TW → Prop) (w : TW) : Prop :=
cl Pg F.api_Nat_Len [a.v] w [.one (.int .i64)] fun (r : Int) w1 =>
slc a 0 r 1 fun s =>
R (s.v) w1
def Dc.limb_trim : Dc := { N := 7, va := [], vb := [], ann := [], ext := Xt }
theorem Eq.limb_trim (a : Sl) (R : Value → TW → Prop) (w : TW) : denF Pg Dc.limb_trim Go.Proofs.Try.f70 (Go.Proofs.Try.f70.body.getD .skip) [a.v] w R = Sh.limb_trim a R w := by kernel_rfl
theorem Ct.limb_trim {a : Sl} {w : TW} {X : Nat → Prop} {K : Tel (fl [.one .slice]) (TW → Prop)} (h : Sh.limb_trim a (Rt X [.one .slice] K w) w.here) : Ct Pg F.limb_trim [a.v] w X [.one .slice] K :=
  ct_of_den (D := Dc.limb_trim) (fn := Go.Proofs.Try.f70) Xt_ok follows_ok (by kernel_rfl) (by kernel_rfl) (by kernel_rfl) (Eq.mpr (Eq.limb_trim a _ _) h)
end Go.Proofs.Ythhohfgpaihngaa.Zg
