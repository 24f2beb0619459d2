/- A part of the proofs of this seat's laws: words, lemmas or contracts of its functions. -/
import Derived.Test.YthhohfgpaihngaaGC
set_option linter.unusedVariables false
set_option linter.unusedSimpArgs false
set_option linter.unnecessarySimpa false
section
set_option maxRecDepth 100000
namespace Go.Proofs.Ythhohfgpaihngaa.Zg
def Sh.api_Nat_Len (n : Sl) (R : Value → TW → Prop) (w : TW) : Prop :=
Jn [.int .i64] (fun J0 =>
Lp [.int .i64] (fun (k : Int) w1 C0 =>
Jn [.bool] (fun J1 =>
cond (decide ((k : Int) > 0)) (
bnd (wi (k - 1)) fun n1 =>
ixa n n1 1 fun a =>
ldc (.int .u64) w1 a fun (v : Int) =>
J1 ((v : Int) == 0) w1) (
J1 false w1)) fun (x : Bool) w2 =>
cond x (
bnd (wi (k - 1)) fun n2 =>
C0 n2 w2) (
J0 k w2)) (n.n : Int) w) fun (k1 : Int) w3 =>
R (.int .i64 k1) w3
def Dc.api_Nat_Len : Dc := { N := 19, va := [], vb := [], ann := [(2, 0, [(3, .one (.int .i64))]), (3, 2, [(3, .one (.int .i64))]), (0, 2, [(15, .one .bool)])], ext := Xt }
theorem Eq.api_Nat_Len (n : Sl) (R : Value → TW → Prop) (w : TW) : denF Pg Dc.api_Nat_Len Go.Proofs.Try.f69 (Go.Proofs.Try.f69.body.getD .skip) [n.v] w R = Sh.api_Nat_Len n R w := by kernel_rfl
theorem Ct.api_Nat_Len {n : Sl} {w : TW} {X : Nat → Prop} {K : Tel (fl [.one (.int .i64)]) (TW → Prop)} (h : Sh.api_Nat_Len n (Rt X [.one (.int .i64)] K w) w.here) : Ct Pg F.api_Nat_Len [n.v] w X [.one (.int .i64)] K :=
  ct_of_den (D := Dc.api_Nat_Len) (fn := Go.Proofs.Try.f69) Xt_ok follows_ok (by kernel_rfl) (by kernel_rfl) (by kernel_rfl) (Eq.mpr (Eq.api_Nat_Len n _ _) h)
end Go.Proofs.Ythhohfgpaihngaa.Zg
end

section
set_option maxRecDepth 100000
namespace Go.Proofs.Ythhohfgpaihngaa.Zg
def Sh.bits_Mul64 (x : Int) (y : Int) (R : Value → TW → Prop) (w : TW) : Prop :=
bnd (bits2 .and .u64 x 4294967295) fun n =>
shrK .u64 x 32 fun n1 =>
bnd (bits2 .and .u64 y 4294967295) fun n2 =>
shrK .u64 y 32 fun n3 =>
bnd (wu (n * n2)) fun n4 =>
bnd (wu (n1 * n2)) fun n5 =>
shrK .u64 n4 32 fun n6 =>
bnd (wu (n5 + n6)) fun n7 =>
bnd (bits2 .and .u64 n7 4294967295) fun n8 =>
shrK .u64 n7 32 fun n9 =>
bnd (wu (n * n3)) fun n10 =>
bnd (wu (n8 + n10)) fun n11 =>
bnd (wu (n1 * n3)) fun n12 =>
bnd (wu (n12 + n9)) fun n13 =>
shrK .u64 n11 32 fun n14 =>
bnd (wu (n13 + n14)) fun n15 =>
bnd (wu (x * y)) fun n16 =>
R (.tuple #[.int .u64 n15, .int .u64 n16]) w
def Dc.bits_Mul64 : Dc := { N := 51, va := [], vb := [], ann := [], ext := Xt }
theorem Eq.bits_Mul64 (x : Int) (y : Int) (R : Value → TW → Prop) (w : TW) : denF Pg Dc.bits_Mul64 Go.Proofs.Try.f63 (Go.Proofs.Try.f63.body.getD .skip) [.int .u64 x, .int .u64 y] w R = Sh.bits_Mul64 x y R w := by kernel_rfl
theorem Ct.bits_Mul64 {x : Int} {y : Int} {w : TW} {X : Nat → Prop} {K : Tel (fl [.one (.int .u64), .one (.int .u64)]) (TW → Prop)} (h : Sh.bits_Mul64 x y (Rt X [.one (.int .u64), .one (.int .u64)] K w) w.here) : Ct Pg F.bits_Mul64 [.int .u64 x, .int .u64 y] w X [.one (.int .u64), .one (.int .u64)] K :=
  ct_of_den (D := Dc.bits_Mul64) (fn := Go.Proofs.Try.f63) Xt_ok follows_ok (by kernel_rfl) (by kernel_rfl) (by kernel_rfl) (Eq.mpr (Eq.bits_Mul64 x y _ _) h)

def Sh.bits_Div64 (hi : Int) (lo : Int) (y : Int) (R : Value → TW → Prop) (w : TW) : Prop :=
Jn [] (fun J0 =>
cond ((y : Int) == 0) (
False) (
J0 w)) fun  w1 =>
Jn [] (fun J1 =>
cond (decide ((y : Int) ≤ hi)) (
False) (
J1 w1)) fun  w2 =>
cond ((hi : Int) == 0) (
divK .u64 lo y fun n =>
remK lo y fun n1 =>
R (.tuple #[.int .u64 n, .int .u64 n1]) w2.drew) (
cl Pg F.bits_LeadingZeros64 [.int .u64 y] w2 [.one (.int .i64)] fun (r : Int) w3 =>
bnd (wu (r)) fun n2 =>
shlK .u64 y n2 fun n3 =>
shrK .u64 n3 32 fun n4 =>
bnd (bits2 .and .u64 n3 4294967295) fun n5 =>
shlK .u64 hi n2 fun n6 =>
bnd (wu (64 - n2)) fun n7 =>
shrK .u64 lo n7 fun n8 =>
bnd (bits2 .or .u64 n6 n8) fun n9 =>
shlK .u64 lo n2 fun n10 =>
shrK .u64 n10 32 fun n11 =>
bnd (bits2 .and .u64 n10 4294967295) fun n12 =>
divK .u64 n9 n4 fun n13 =>
bnd (wu (n13 * n4)) fun n14 =>
bnd (wu (n9 - n14)) fun n15 =>
Jn [.int .u64] (fun J2 =>
Lp [.int .u64, .int .u64] (fun (q1 : Int) (rhat : Int) w4 C0 =>
Jn [.bool] (fun J3 =>
cond (decide ((q1 : Int) ≥ 4294967296)) (
J3 true w4) (
bnd (wu (q1 * n5)) fun n16 =>
bnd (wu (4294967296 * rhat)) fun n17 =>
bnd (wu (n17 + n11)) fun n18 =>
J3 (decide ((n16 : Int) > n18)) w4)) fun (x : Bool) w5 =>
cond x (
bnd (wu (q1 - 1)) fun n19 =>
bnd (wu (rhat + n4)) fun n20 =>
cond (decide ((n20 : Int) ≥ 4294967296)) (
J2 n19 w5) (
C0 n19 n20 w5)) (
J2 q1 w5)) n13 n15 w3) fun (q11 : Int) w6 =>
bnd (wu (n9 * 4294967296)) fun n21 =>
bnd (wu (n21 + n11)) fun n22 =>
bnd (wu (q11 * n3)) fun n23 =>
bnd (wu (n22 - n23)) fun n24 =>
divK .u64 n24 n4 fun n25 =>
bnd (wu (n25 * n4)) fun n26 =>
bnd (wu (n24 - n26)) fun n27 =>
Jn [.int .u64] (fun J4 =>
Lp [.int .u64, .int .u64] (fun (rhat1 : Int) (q0 : Int) w7 C1 =>
Jn [.bool] (fun J5 =>
cond (decide ((q0 : Int) ≥ 4294967296)) (
J5 true w7) (
bnd (wu (q0 * n5)) fun n28 =>
bnd (wu (4294967296 * rhat1)) fun n29 =>
bnd (wu (n29 + n12)) fun n30 =>
J5 (decide ((n28 : Int) > n30)) w7)) fun (x1 : Bool) w8 =>
cond x1 (
bnd (wu (q0 - 1)) fun n31 =>
bnd (wu (rhat1 + n4)) fun n32 =>
cond (decide ((n32 : Int) ≥ 4294967296)) (
J4 n31 w8) (
C1 n32 n31 w8)) (
J4 q0 w8)) n27 n25 w6) fun (q01 : Int) w9 =>
bnd (wu (q11 * 4294967296)) fun n33 =>
bnd (wu (n33 + q01)) fun n34 =>
bnd (wu (n24 * 4294967296)) fun n35 =>
bnd (wu (n35 + n12)) fun n36 =>
bnd (wu (q01 * n3)) fun n37 =>
bnd (wu (n36 - n37)) fun n38 =>
shrK .u64 n38 n2 fun n39 =>
R (.tuple #[.int .u64 n34, .int .u64 n39]) w9)
def Dc.bits_Div64 : Dc := { N := 135, va := [], vb := [], ann := [(1, 2, []), (1, 4, []), (2, 0, [(15, .one (.int .u64))]), (3, 17, [(15, .one (.int .u64)), (16, .one (.int .u64))]), (0, 17, [(78, .one .bool)]), (2, 2, [(18, .one (.int .u64))]), (3, 24, [(16, .one (.int .u64)), (18, .one (.int .u64))]), (0, 24, [(113, .one .bool)])], ext := Xt }
theorem Eq.bits_Div64 (hi : Int) (lo : Int) (y : Int) (R : Value → TW → Prop) (w : TW) : denF Pg Dc.bits_Div64 Go.Proofs.Try.f72 (Go.Proofs.Try.f72.body.getD .skip) [.int .u64 hi, .int .u64 lo, .int .u64 y] w R = Sh.bits_Div64 hi lo y R w := by kernel_rfl
theorem Ct.bits_Div64 {hi : Int} {lo : Int} {y : Int} {w : TW} {X : Nat → Prop} {K : Tel (fl [.one (.int .u64), .one (.int .u64)]) (TW → Prop)} (h : Sh.bits_Div64 hi lo y (Rt X [.one (.int .u64), .one (.int .u64)] K w) w.here) : Ct Pg F.bits_Div64 [.int .u64 hi, .int .u64 lo, .int .u64 y] w X [.one (.int .u64), .one (.int .u64)] K :=
  ct_of_den (D := Dc.bits_Div64) (fn := Go.Proofs.Try.f72) Xt_ok follows_ok (by kernel_rfl) (by kernel_rfl) (by kernel_rfl) (Eq.mpr (Eq.bits_Div64 hi lo y _ _) h)

def Sh.bits_LeadingZeros64 (x : Int) (R : Value → TW → Prop) (w : TW) : Prop :=
cl Pg F.bits_Len64 [.int .u64 x] w [.one (.int .i64)] fun (r : Int) w1 =>
bnd (wi (64 - r)) fun n =>
R (.int .i64 n) w1
def Dc.bits_LeadingZeros64 : Dc := { N := 6, va := [], vb := [], ann := [], ext := Xt }
theorem Eq.bits_LeadingZeros64 (x : Int) (R : Value → TW → Prop) (w : TW) : denF Pg Dc.bits_LeadingZeros64 Go.Proofs.Try.f77 (Go.Proofs.Try.f77.body.getD .skip) [.int .u64 x] w R = Sh.bits_LeadingZeros64 x R w := by kernel_rfl
theorem Ct.bits_LeadingZeros64 {x : Int} {w : TW} {X : Nat → Prop} {K : Tel (fl [.one (.int .i64)]) (TW → Prop)} (h : Sh.bits_LeadingZeros64 x (Rt X [.one (.int .i64)] K w) w.here) : Ct Pg F.bits_LeadingZeros64 [.int .u64 x] w X [.one (.int .i64)] K :=
  ct_of_den (D := Dc.bits_LeadingZeros64) (fn := Go.Proofs.Try.f77) Xt_ok follows_ok (by kernel_rfl) (by kernel_rfl) (by kernel_rfl) (Eq.mpr (Eq.bits_LeadingZeros64 x _ _) h)

def Sh.bits_Len64 (x : Int) (R : Value → TW → Prop) (w : TW) : Prop :=
Jn [.int .u64, .int .i64] (fun J0 =>
cond (decide ((x : Int) ≥ 4294967296)) (
shrK .u64 x 32 fun n =>
J0 n 32 w) (
J0 x 0 w)) fun (x1 : Int) (n1 : Int) w1 =>
Jn [.int .u64, .int .i64] (fun J1 =>
cond (decide ((x1 : Int) ≥ 65536)) (
shrK .u64 x1 16 fun n2 =>
bnd (wi (n1 + 16)) fun n3 =>
J1 n2 n3 w1) (
J1 x1 n1 w1)) fun (x2 : Int) (n4 : Int) w2 =>
Jn [.int .u64, .int .i64] (fun J2 =>
cond (decide ((x2 : Int) ≥ 256)) (
shrK .u64 x2 8 fun n5 =>
bnd (wi (n4 + 8)) fun n6 =>
J2 n5 n6 w2) (
J2 x2 n4 w2)) fun (x3 : Int) (n7 : Int) w3 =>
bnd (IntKind.u8.wrap (x3)) fun n8 =>
ixs (⟨#[0, 1, 2, 2, 3, 3, 3, 3, 4, 4, 4, 4, 4, 4, 4, 4, 5, 5, 5, 5, 5, 5, 5, 5, 5, 5, 5, 5, 5, 5, 5, 5, 6, 6, 6, 6, 6, 6, 6, 6, 6, 6, 6, 6, 6, 6, 6, 6, 6, 6, 6, 6, 6, 6, 6, 6, 6, 6, 6, 6, 6, 6, 6, 6, 7, 7, 7, 7, 7, 7, 7, 7, 7, 7, 7, 7, 7, 7, 7, 7, 7, 7, 7, 7, 7, 7, 7, 7, 7, 7, 7, 7, 7, 7, 7, 7, 7, 7, 7, 7, 7, 7, 7, 7, 7, 7, 7, 7, 7, 7, 7, 7, 7, 7, 7, 7, 7, 7, 7, 7, 7, 7, 7, 7, 7, 7, 7, 7, 8, 8, 8, 8, 8, 8, 8, 8, 8, 8, 8, 8, 8, 8, 8, 8, 8, 8, 8, 8, 8, 8, 8, 8, 8, 8, 8, 8, 8, 8, 8, 8, 8, 8, 8, 8, 8, 8, 8, 8, 8, 8, 8, 8, 8, 8, 8, 8, 8, 8, 8, 8, 8, 8, 8, 8, 8, 8, 8, 8, 8, 8, 8, 8, 8, 8, 8, 8, 8, 8, 8, 8, 8, 8, 8, 8, 8, 8, 8, 8, 8, 8, 8, 8, 8, 8, 8, 8, 8, 8, 8, 8, 8, 8, 8, 8, 8, 8, 8, 8, 8, 8, 8, 8, 8, 8, 8, 8, 8, 8, 8, 8, 8, 8, 8, 8, 8, 8, 8, 8, 8, 8, 8, 8, 8, 8, 8, 8]⟩ : ByteArray) n8 fun n9 =>
bnd (wi (n9)) fun n10 =>
bnd (wi (n7 + n10)) fun n11 =>
R (.int .i64 n11) w3
def Dc.bits_Len64 : Dc := { N := 25, va := [], vb := [], ann := [(1, 2, [(0, .one (.int .u64)), (2, .one (.int .i64))]), (1, 5, [(0, .one (.int .u64)), (2, .one (.int .i64))]), (1, 8, [(0, .one (.int .u64)), (2, .one (.int .i64))])], ext := Xt }
theorem Eq.bits_Len64 (x : Int) (R : Value → TW → Prop) (w : TW) : denF Pg Dc.bits_Len64 Go.Proofs.Try.f79 (Go.Proofs.Try.f79.body.getD .skip) [.int .u64 x] w R = Sh.bits_Len64 x R w := by kernel_rfl
theorem Ct.bits_Len64 {x : Int} {w : TW} {X : Nat → Prop} {K : Tel (fl [.one (.int .i64)]) (TW → Prop)} (h : Sh.bits_Len64 x (Rt X [.one (.int .i64)] K w) w.here) : Ct Pg F.bits_Len64 [.int .u64 x] w X [.one (.int .i64)] K :=
  ct_of_den (D := Dc.bits_Len64) (fn := Go.Proofs.Try.f79) Xt_ok follows_ok (by kernel_rfl) (by kernel_rfl) (by kernel_rfl) (Eq.mpr (Eq.bits_Len64 x _ _) h)
end Go.Proofs.Ythhohfgpaihngaa.Zg
end

section
set_option maxRecDepth 100000
namespace Go.Proofs.Ythhohfgpaihngaa.Zg
def Sh.limb_Join (k : Int) (parts : Sl) (R : Value → TW → Prop) (w : TW) : Prop :=
cl Pg F.limb_within [.int .i64 k, .int .i64 16384] w [.one (.int .i64)] fun (r : Int) w1 =>
Jn [.int .i64] (fun J0 =>
Lp [.int .i64, .int .i64] (fun (n : Int) (x : Int) w2 C0 =>
cond (decide ((x : Int) < (parts.n : Int))) (
ixa parts x 1 fun a =>
ldc (.slice) w2 a fun (v : Sl) =>
cl Pg F.api_Nat_Len [v.v] w2 [.one (.int .i64)] fun (r1 : Int) w3 =>
Jn [.int .i64] (fun J1 =>
cond (decide ((r1 : Int) > 0)) (
bnd (wi (r * x)) fun n1 =>
bnd (wi (n1 + r1)) fun n2 =>
bnd (if (n2 : Int) > n then n2 else n) fun n3 =>
J1 n3 w3) (
J1 n w3)) fun (n4 : Int) w4 =>
bnd (wi (x + 1)) fun n5 =>
C0 n4 n5 w4) (
J0 n w2)) 0 0 w1) fun (n6 : Int) w5 =>
bnd (wi (n6 + 2)) fun n7 =>
mks w5 n7 n7 T.uint64 8 [.int .u64 0] fun s w6 =>
Jn [] (fun J2 =>
Lp [.int .i64] (fun (x1 : Int) w7 C1 =>
cond (decide ((x1 : Int) < (parts.n : Int))) (
ixa parts x1 1 fun a1 =>
ldc (.slice) w7 a1 fun (v1 : Sl) =>
cl Pg F.limb_trim [v1.v] w7 [.one .slice] fun (s1 : Sl) w8 =>
Jn [] (fun J3 =>
Lp [.int .u64, .int .i64] (fun (c : Int) (j : Int) w9 C2 =>
Jn [.bool] (fun J4 =>
cond (decide ((j : Int) < (s1.n : Int))) (
J4 true w9) (
J4 (decide ((c : Int) > 0)) w9)) fun (x2 : Bool) w10 =>
cond x2 (
Jn [.int .u64] (fun J5 =>
cond (decide ((j : Int) < (s1.n : Int))) (
ixa s1 j 1 fun a2 =>
ldc (.int .u64) w10 a2 fun (v2 : Int) =>
J5 v2 w10) (
J5 0 w10)) fun (y : Int) w11 =>
bnd (wi (r * x1)) fun n8 =>
bnd (wi (n8 + j)) fun n9 =>
bnd (wi (r * x1)) fun n10 =>
bnd (wi (n10 + j)) fun n11 =>
ixa s n11 1 fun a3 =>
ldc (.int .u64) w11 a3 fun (v3 : Int) =>
add64 v3 y c fun s2 c1 =>
ixa s n9 1 fun a4 =>
stc w11 a4 (.int .u64 s2) fun w12 =>
bnd (wi (j + 1)) fun n12 =>
C2 c1 n12 w12) (
J3 w10)) 0 0 w8) fun  w13 =>
bnd (wi (x1 + 1)) fun n13 =>
C1 n13 w13) (
J2 w7)) 0 w6) fun  w14 =>
cl Pg F.limb_trim [s.v] w14 [.one .slice] fun (s3 : Sl) w15 =>
R (s3.v) w15
def Dc.limb_Join : Dc := { N := 90, va := [], vb := [], ann := [(2, 0, [(5, .one (.int .i64))]), (3, 4, [(5, .one (.int .i64)), (19, .one (.int .i64))]), (1, 8, [(5, .one (.int .i64))]), (2, 2, []), (3, 12, [(41, .one (.int .i64))]), (2, 4, []), (3, 17, [(12, .one (.int .u64)), (13, .one (.int .i64))]), (0, 17, [(55, .one .bool)]), (1, 21, [(14, .one (.int .u64))])], ext := Xt }
theorem Eq.limb_Join (k : Int) (parts : Sl) (R : Value → TW → Prop) (w : TW) : denF Pg Dc.limb_Join Go.Proofs.Try.f32 (Go.Proofs.Try.f32.body.getD .skip) [.int .i64 k, parts.v] w R = Sh.limb_Join k parts R w := by kernel_rfl
theorem Ct.limb_Join {k : Int} {parts : Sl} {w : TW} {X : Nat → Prop} {K : Tel (fl [.one .slice]) (TW → Prop)} (h : Sh.limb_Join k parts (Rt X [.one .slice] K w) w.here) : Ct Pg F.limb_Join [.int .i64 k, parts.v] w X [.one .slice] K :=
  ct_of_den (D := Dc.limb_Join) (fn := Go.Proofs.Try.f32) Xt_ok follows_ok (by kernel_rfl) (by kernel_rfl) (by kernel_rfl) (Eq.mpr (Eq.limb_Join k parts _ _) h)

def Sh.limb_Sum (l : Sl) (R : Value → TW → Prop) (w : TW) : Prop :=
cl Pg F.limb_Join [.int .i64 0, l.v] w [.one .slice] fun (s : Sl) w1 =>
R (s.v) w1
def Dc.limb_Sum : Dc := { N := 5, va := [], vb := [], ann := [], ext := Xt }
theorem Eq.limb_Sum (l : Sl) (R : Value → TW → Prop) (w : TW) : denF Pg Dc.limb_Sum Go.Proofs.Try.f38 (Go.Proofs.Try.f38.body.getD .skip) [l.v] w R = Sh.limb_Sum l R w := by kernel_rfl
theorem Ct.limb_Sum {l : Sl} {w : TW} {X : Nat → Prop} {K : Tel (fl [.one .slice]) (TW → Prop)} (h : Sh.limb_Sum l (Rt X [.one .slice] K w) w.here) : Ct Pg F.limb_Sum [l.v] w X [.one .slice] K :=
  ct_of_den (D := Dc.limb_Sum) (fn := Go.Proofs.Try.f38) Xt_ok follows_ok (by kernel_rfl) (by kernel_rfl) (by kernel_rfl) (Eq.mpr (Eq.limb_Sum l _ _) h)

def Sh.limb_One (y : Int) (R : Value → TW → Prop) (w : TW) : Prop :=
cond ((y : Int) == 0) (
R (.slice none 0 0) w) (
nwb w [.int .u64 y] T.uint64 fun b w1 =>
R (.slice (some ⟨b, 0, none⟩) 1 1) w1)
def Dc.limb_One : Dc := { N := 7, va := [], vb := [], ann := [], ext := Xt }
theorem Eq.limb_One (y : Int) (R : Value → TW → Prop) (w : TW) : denF Pg Dc.limb_One Go.Proofs.Try.f40 (Go.Proofs.Try.f40.body.getD .skip) [.int .u64 y] w R = Sh.limb_One y R w := by kernel_rfl
theorem Ct.limb_One {y : Int} {w : TW} {X : Nat → Prop} {K : Tel (fl [.one .slice]) (TW → Prop)} (h : Sh.limb_One y (Rt X [.one .slice] K w) w.here) : Ct Pg F.limb_One [.int .u64 y] w X [.one .slice] K :=
  ct_of_den (D := Dc.limb_One) (fn := Go.Proofs.Try.f40) Xt_ok follows_ok (by kernel_rfl) (by kernel_rfl) (by kernel_rfl) (Eq.mpr (Eq.limb_One y _ _) h)

def Sh.limb_Split (a : Sl) (k : Int) (R : Value → TW → Prop) (w : TW) : Prop :=
cl Pg F.limb_within [.int .i64 k, .int .i64 16384] w [.one (.int .i64)] fun (r : Int) w1 =>
cl Pg F.limb_trim [a.v] w1 [.one .slice] fun (s : Sl) w2 =>
cond (decide ((r : Int) ≥ (s.n : Int))) (
apd w2 T.uint64 1 8 Sl.nil s fun s1 w3 =>
R (.tuple #[s1.v, .slice none 0 0]) w3) (
slc s 0 r 1 fun s2 =>
slc s r (s.n : Nat) 1 fun s3 =>
cl Pg F.limb_Norm [s2.v] w2.drew [.one .slice] fun (s4 : Sl) w4 =>
apd w4 T.uint64 1 8 Sl.nil s3 fun s5 w5 =>
R (.tuple #[s4.v, s5.v]) w5)
def Dc.limb_Split : Dc := { N := 24, va := [], vb := [], ann := [], ext := Xt }
theorem Eq.limb_Split (a : Sl) (k : Int) (R : Value → TW → Prop) (w : TW) : denF Pg Dc.limb_Split Go.Proofs.Try.f41 (Go.Proofs.Try.f41.body.getD .skip) [a.v, .int .i64 k] w R = Sh.limb_Split a k R w := by kernel_rfl
theorem Ct.limb_Split {a : Sl} {k : Int} {w : TW} {X : Nat → Prop} {K : Tel (fl [.one .slice, .one .slice]) (TW → Prop)} (h : Sh.limb_Split a k (Rt X [.one .slice, .one .slice] K w) w.here) : Ct Pg F.limb_Split [a.v, .int .i64 k] w X [.one .slice, .one .slice] K :=
  ct_of_den (D := Dc.limb_Split) (fn := Go.Proofs.Try.f41) Xt_ok follows_ok (by kernel_rfl) (by kernel_rfl) (by kernel_rfl) (Eq.mpr (Eq.limb_Split a k _ _) h)

def Sh.limb_Cmp (a : Sl) (b : Sl) (R : Value → TW → Prop) (w : TW) : Prop :=
cl Pg F.api_Nat_Len [a.v] w [.one (.int .i64)] fun (r : Int) w1 =>
cl Pg F.api_Nat_Len [b.v] w1 [.one (.int .i64)] fun (r1 : Int) w2 =>
cond ((r : Int) != r1) (
cond (decide ((r : Int) < r1)) (
R (.int .i64 (-1)) w2) (
R (.int .i64 1) w2)) (
bnd (wi (r - 1)) fun n =>
Jn [] (fun J0 =>
Lp [.int .i64] (fun (i : Int) w3 C0 =>
cond (decide ((i : Int) ≥ 0)) (
ixa a i 1 fun a1 =>
ldc (.int .u64) w3.drew a1 fun (v : Int) =>
ixa b i 1 fun a2 =>
ldc (.int .u64) w3.drew a2 fun (v1 : Int) =>
cond ((v : Int) != v1) (
ixa a i 1 fun a3 =>
ldc (.int .u64) w3.drew.drew a3 fun (v2 : Int) =>
ixa b i 1 fun a4 =>
ldc (.int .u64) w3.drew.drew a4 fun (v3 : Int) =>
cond (decide ((v2 : Int) < v3)) (
R (.int .i64 (-1)) w3.drew.drew) (
R (.int .i64 1) w3.drew.drew)) (
bnd (wi (i - 1)) fun n1 =>
C0 n1 w3.drew)) (
J0 w3)) n w2) fun  w4 =>
R (.int .i64 0) w4)
def Dc.limb_Cmp : Dc := { N := 42, va := [], vb := [], ann := [(2, 0, []), (3, 7, [(7, .one (.int .i64))])], ext := Xt }
theorem Eq.limb_Cmp (a : Sl) (b : Sl) (R : Value → TW → Prop) (w : TW) : denF Pg Dc.limb_Cmp Go.Proofs.Try.f44 (Go.Proofs.Try.f44.body.getD .skip) [a.v, b.v] w R = Sh.limb_Cmp a b R w := by kernel_rfl
theorem Ct.limb_Cmp {a : Sl} {b : Sl} {w : TW} {X : Nat → Prop} {K : Tel (fl [.one (.int .i64)]) (TW → Prop)} (h : Sh.limb_Cmp a b (Rt X [.one (.int .i64)] K w) w.here) : Ct Pg F.limb_Cmp [a.v, b.v] w X [.one (.int .i64)] K :=
  ct_of_den (D := Dc.limb_Cmp) (fn := Go.Proofs.Try.f44) Xt_ok follows_ok (by kernel_rfl) (by kernel_rfl) (by kernel_rfl) (Eq.mpr (Eq.limb_Cmp a b _ _) h)

def Sh.limb_Add (a : Sl) (b : Sl) (R : Value → TW → Prop) (w : TW) : Prop :=
cl Pg F.limb_trim [a.v] w [.one .slice] fun (s : Sl) w1 =>
cl Pg F.limb_trim [b.v] w1 [.one .slice] fun (s1 : Sl) w2 =>
Jn [.slice, .slice] (fun J0 =>
cond (decide (((s.n : Int) : Int) < (s1.n : Int))) (
J0 s1 s w2) (
J0 s s1 w2)) fun (a1 : Sl) (b1 : Sl) w3 =>
bnd (wi ((a1.n : Int) + 1)) fun n =>
mks w3 n n T.uint64 8 [.int .u64 0] fun s2 w4 =>
Jn [.int .u64] (fun J1 =>
Lp [.int .u64, .int .i64] (fun (c : Int) (x : Int) w5 C0 =>
cond (decide ((x : Int) < (a1.n : Int))) (
Jn [.int .u64] (fun J2 =>
cond (decide ((x : Int) < (b1.n : Int))) (
ixa b1 x 1 fun a2 =>
ldc (.int .u64) w5 a2 fun (v : Int) =>
J2 v w5) (
J2 0 w5)) fun (y : Int) w6 =>
ixa a1 x 1 fun a3 =>
ldc (.int .u64) w6 a3 fun (v1 : Int) =>
add64 v1 y c fun s3 c1 =>
ixa s2 x 1 fun a4 =>
stc w6 a4 (.int .u64 s3) fun w7 =>
bnd (wi (x + 1)) fun n1 =>
C0 c1 n1 w7) (
J1 c w5)) 0 0 w4) fun (c2 : Int) w8 =>
ixa s2 (a1.n : Int) 1 fun a5 =>
stc w8 a5 (.int .u64 c2) fun w9 =>
cl Pg F.limb_trim [s2.v] w9 [.one .slice] fun (s4 : Sl) w10 =>
R (s4.v) w10
def Dc.limb_Add : Dc := { N := 58, va := [], vb := [], ann := [(1, 3, [(0, .one .slice), (1, .one .slice)]), (2, 0, [(6, .one (.int .u64))]), (3, 7, [(6, .one (.int .u64)), (26, .one (.int .i64))]), (1, 11, [(8, .one (.int .u64))])], ext := Xt }
theorem Eq.limb_Add (a : Sl) (b : Sl) (R : Value → TW → Prop) (w : TW) : denF Pg Dc.limb_Add Go.Proofs.Try.f49 (Go.Proofs.Try.f49.body.getD .skip) [a.v, b.v] w R = Sh.limb_Add a b R w := by kernel_rfl
theorem Ct.limb_Add {a : Sl} {b : Sl} {w : TW} {X : Nat → Prop} {K : Tel (fl [.one .slice]) (TW → Prop)} (h : Sh.limb_Add a b (Rt X [.one .slice] K w) w.here) : Ct Pg F.limb_Add [a.v, b.v] w X [.one .slice] K :=
  ct_of_den (D := Dc.limb_Add) (fn := Go.Proofs.Try.f49) Xt_ok follows_ok (by kernel_rfl) (by kernel_rfl) (by kernel_rfl) (Eq.mpr (Eq.limb_Add a b _ _) h)

def Sh.limb_Sub (a : Sl) (b : Sl) (R : Value → TW → Prop) (w : TW) : Prop :=
cl Pg F.limb_trim [a.v] w [.one .slice] fun (s : Sl) w1 =>
cl Pg F.limb_trim [b.v] w1 [.one .slice] fun (s1 : Sl) w2 =>
cl Pg F.limb_Cmp [s.v, s1.v] w2 [.one (.int .i64)] fun (r : Int) w3 =>
cond (decide ((r : Int) < 0)) (
R (.tuple #[.slice none 0 0, .bool false]) w3) (
mks w3 (s.n : Int) (s.n : Int) T.uint64 8 [.int .u64 0] fun s2 w4 =>
Jn [] (fun J0 =>
Lp [.int .u64, .int .i64] (fun (c : Int) (x : Int) w5 C0 =>
cond (decide ((x : Int) < (s.n : Int))) (
Jn [.int .u64] (fun J1 =>
cond (decide ((x : Int) < (s1.n : Int))) (
ixa s1 x 1 fun a1 =>
ldc (.int .u64) w5 a1 fun (v : Int) =>
J1 v w5) (
J1 0 w5)) fun (y : Int) w6 =>
ixa s x 1 fun a2 =>
ldc (.int .u64) w6 a2 fun (v1 : Int) =>
sub64 v1 y c fun s3 c1 =>
ixa s2 x 1 fun a3 =>
stc w6 a3 (.int .u64 s3) fun w7 =>
bnd (wi (x + 1)) fun n =>
C0 c1 n w7) (
J0 w5)) 0 0 w4) fun  w8 =>
cl Pg F.limb_trim [s2.v] w8 [.one .slice] fun (s4 : Sl) w9 =>
R (.tuple #[s4.v, .bool true]) w9)
def Dc.limb_Sub : Dc := { N := 50, va := [], vb := [], ann := [(2, 0, []), (3, 7, [(7, .one (.int .u64)), (23, .one (.int .i64))]), (1, 11, [(9, .one (.int .u64))])], ext := Xt }
theorem Eq.limb_Sub (a : Sl) (b : Sl) (R : Value → TW → Prop) (w : TW) : denF Pg Dc.limb_Sub Go.Proofs.Try.f50 (Go.Proofs.Try.f50.body.getD .skip) [a.v, b.v] w R = Sh.limb_Sub a b R w := by kernel_rfl
theorem Ct.limb_Sub {a : Sl} {b : Sl} {w : TW} {X : Nat → Prop} {K : Tel (fl [.one .slice, .one .bool]) (TW → Prop)} (h : Sh.limb_Sub a b (Rt X [.one .slice, .one .bool] K w) w.here) : Ct Pg F.limb_Sub [a.v, b.v] w X [.one .slice, .one .bool] K :=
  ct_of_den (D := Dc.limb_Sub) (fn := Go.Proofs.Try.f50) Xt_ok follows_ok (by kernel_rfl) (by kernel_rfl) (by kernel_rfl) (Eq.mpr (Eq.limb_Sub a b _ _) h)

def Sh.limb_Norm (a : Sl) (R : Value → TW → Prop) (w : TW) : Prop :=
cl Pg F.limb_trim [a.v] w [.one .slice] fun (s : Sl) w1 =>
apd w1 T.uint64 1 8 Sl.nil s fun s1 w2 =>
R (s1.v) w2
def Dc.limb_Norm : Dc := { N := 6, va := [], vb := [], ann := [], ext := Xt }
theorem Eq.limb_Norm (a : Sl) (R : Value → TW → Prop) (w : TW) : denF Pg Dc.limb_Norm Go.Proofs.Try.f53 (Go.Proofs.Try.f53.body.getD .skip) [a.v] w R = Sh.limb_Norm a R w := by kernel_rfl
theorem Ct.limb_Norm {a : Sl} {w : TW} {X : Nat → Prop} {K : Tel (fl [.one .slice]) (TW → Prop)} (h : Sh.limb_Norm a (Rt X [.one .slice] K w) w.here) : Ct Pg F.limb_Norm [a.v] w X [.one .slice] K :=
  ct_of_den (D := Dc.limb_Norm) (fn := Go.Proofs.Try.f53) Xt_ok follows_ok (by kernel_rfl) (by kernel_rfl) (by kernel_rfl) (Eq.mpr (Eq.limb_Norm a _ _) h)

def Sh.limb_MulWord (a : Sl) (y : Int) (R : Value → TW → Prop) (w : TW) : Prop :=
cl Pg F.limb_AddMul [.slice none 0 0, a.v, .int .u64 y] w [.one .slice] fun (s : Sl) w1 =>
R (s.v) w1
def Dc.limb_MulWord : Dc := { N := 8, va := [], vb := [], ann := [], ext := Xt }
theorem Eq.limb_MulWord (a : Sl) (y : Int) (R : Value → TW → Prop) (w : TW) : denF Pg Dc.limb_MulWord Go.Proofs.Try.f54 (Go.Proofs.Try.f54.body.getD .skip) [a.v, .int .u64 y] w R = Sh.limb_MulWord a y R w := by kernel_rfl
theorem Ct.limb_MulWord {a : Sl} {y : Int} {w : TW} {X : Nat → Prop} {K : Tel (fl [.one .slice]) (TW → Prop)} (h : Sh.limb_MulWord a y (Rt X [.one .slice] K w) w.here) : Ct Pg F.limb_MulWord [a.v, .int .u64 y] w X [.one .slice] K :=
  ct_of_den (D := Dc.limb_MulWord) (fn := Go.Proofs.Try.f54) Xt_ok follows_ok (by kernel_rfl) (by kernel_rfl) (by kernel_rfl) (Eq.mpr (Eq.limb_MulWord a y _ _) h)

def Sh.limb_AddMul (a : Sl) (b : Sl) (y : Int) (R : Value → TW → Prop) (w : TW) : Prop :=
cl Pg F.limb_trim [a.v] w [.one .slice] fun (s : Sl) w1 =>
cl Pg F.limb_trim [b.v] w1 [.one .slice] fun (s1 : Sl) w2 =>
bnd (wi ((s1.n : Int) + 1)) fun n =>
bnd (if (n : Int) > (s.n : Int) then n else (s.n : Int)) fun n1 =>
bnd (wi (n1 + 1)) fun n2 =>
mks w2 n2 n2 T.uint64 8 [.int .u64 0] fun s2 w3 =>
cpy w3 T.uint64 s2 s fun _ w4 =>
Jn [] (fun J0 =>
Lp [.int .u64, .int .i64] (fun (c : Int) (x : Int) w5 C0 =>
cond (decide ((x : Int) < (s2.n : Int))) (
Jn [.bool] (fun J1 =>
cond (decide ((x : Int) ≥ (s1.n : Int))) (
J1 ((c : Int) == 0) w5) (
J1 false w5)) fun (x1 : Bool) w6 =>
cond x1 (
J0 w6) (
Jn [.int .u64, .int .u64] (fun J2 =>
cond (decide ((x : Int) < (s1.n : Int))) (
ixa s1 x 1 fun a1 =>
ldc (.int .u64) w6 a1 fun (v : Int) =>
cl Pg F.bits_Mul64 [.int .u64 v, .int .u64 y] w6 [.one (.int .u64), .one (.int .u64)] fun (r : Int) (r1 : Int) w7 =>
J2 r r1 w7) (
J2 0 0 w6)) fun (hi : Int) (lo : Int) w8 =>
add64 lo c 0 fun s3 c1 =>
bnd (wu (hi + c1)) fun n4 =>
ixa s2 x 1 fun a2 =>
ldc (.int .u64) w8 a2 fun (v1 : Int) =>
add64 v1 s3 0 fun s4 c2 =>
ixa s2 x 1 fun a3 =>
stc w8 a3 (.int .u64 s4) fun w9 =>
bnd (wu (n4 + c2)) fun n5 =>
bnd (wi (x + 1)) fun n6 =>
C0 n5 n6 w9)) (
J0 w5)) 0 0 w4) fun  w10 =>
cl Pg F.limb_trim [s2.v] w10 [.one .slice] fun (s5 : Sl) w11 =>
R (s5.v) w11
def Dc.limb_AddMul : Dc := { N := 82, va := [], vb := [], ann := [(2, 0, []), (3, 6, [(8, .one (.int .u64)), (31, .one (.int .i64))]), (0, 8, [(41, .one .bool)]), (1, 11, [(10, .one (.int .u64)), (11, .one (.int .u64))])], ext := Xt }
theorem Eq.limb_AddMul (a : Sl) (b : Sl) (y : Int) (R : Value → TW → Prop) (w : TW) : denF Pg Dc.limb_AddMul Go.Proofs.Try.f55 (Go.Proofs.Try.f55.body.getD .skip) [a.v, b.v, .int .u64 y] w R = Sh.limb_AddMul a b y R w := by kernel_rfl
theorem Ct.limb_AddMul {a : Sl} {b : Sl} {y : Int} {w : TW} {X : Nat → Prop} {K : Tel (fl [.one .slice]) (TW → Prop)} (h : Sh.limb_AddMul a b y (Rt X [.one .slice] K w) w.here) : Ct Pg F.limb_AddMul [a.v, b.v, .int .u64 y] w X [.one .slice] K :=
  ct_of_den (D := Dc.limb_AddMul) (fn := Go.Proofs.Try.f55) Xt_ok follows_ok (by kernel_rfl) (by kernel_rfl) (by kernel_rfl) (Eq.mpr (Eq.limb_AddMul a b y _ _) h)

def Sh.limb_SubMul (a : Sl) (b : Sl) (y : Int) (R : Value → TW → Prop) (w : TW) : Prop :=
cl Pg F.limb_MulWord [b.v, .int .u64 y] w [.one .slice] fun (s : Sl) w1 =>
cl Pg F.limb_Sub [a.v, s.v] w1 [.one .slice, .one .bool] fun (s1 : Sl) (ok : Bool) w2 =>
R (.tuple #[s1.v, .bool ok]) w2
def Dc.limb_SubMul : Dc := { N := 15, va := [], vb := [], ann := [], ext := Xt }
theorem Eq.limb_SubMul (a : Sl) (b : Sl) (y : Int) (R : Value → TW → Prop) (w : TW) : denF Pg Dc.limb_SubMul Go.Proofs.Try.f56 (Go.Proofs.Try.f56.body.getD .skip) [a.v, b.v, .int .u64 y] w R = Sh.limb_SubMul a b y R w := by kernel_rfl
theorem Ct.limb_SubMul {a : Sl} {b : Sl} {y : Int} {w : TW} {X : Nat → Prop} {K : Tel (fl [.one .slice, .one .bool]) (TW → Prop)} (h : Sh.limb_SubMul a b y (Rt X [.one .slice, .one .bool] K w) w.here) : Ct Pg F.limb_SubMul [a.v, b.v, .int .u64 y] w X [.one .slice, .one .bool] K :=
  ct_of_den (D := Dc.limb_SubMul) (fn := Go.Proofs.Try.f56) Xt_ok follows_ok (by kernel_rfl) (by kernel_rfl) (by kernel_rfl) (Eq.mpr (Eq.limb_SubMul a b y _ _) h)

def Sh.limb_Shl (a : Sl) (n : Int) (R : Value → TW → Prop) (w : TW) : Prop :=
cl Pg F.limb_within [.int .i64 n, .int .i64 1048576] w [.one (.int .i64)] fun (r : Int) w1 =>
cl Pg F.limb_trim [a.v] w1 [.one .slice] fun (s : Sl) w2 =>
cond (((s.n : Int) : Int) == 0) (
R (.slice none 0 0) w2) (
divK .i64 r 64 fun n1 =>
remK r 64 fun n2 =>
bnd (wu (n2)) fun n3 =>
bnd (wi ((s.n : Int) + n1)) fun n4 =>
bnd (wi (n4 + 1)) fun n5 =>
mks w2 n5 n5 T.uint64 8 [.int .u64 0] fun s1 w3 =>
Jn [] (fun J0 =>
Lp [.int .i64] (fun (x : Int) w4 C0 =>
cond (decide ((x : Int) < (s.n : Int))) (
ixa s x 1 fun a1 =>
ldc (.int .u64) w4 a1 fun (v : Int) =>
bnd (wi (x + n1)) fun n6 =>
bnd (wi (x + n1)) fun n7 =>
ixa s1 n7 1 fun a2 =>
ldc (.int .u64) w4 a2 fun (v1 : Int) =>
shlK .u64 v n3 fun n8 =>
bnd (bits2 .or .u64 v1 n8) fun n9 =>
ixa s1 n6 1 fun a3 =>
stc w4 a3 (.int .u64 n9) fun w5 =>
Jn [] (fun J1 =>
cond (decide ((n3 : Int) > 0)) (
bnd (wi (x + n1)) fun n10 =>
bnd (wi (n10 + 1)) fun n11 =>
bnd (wu (64 - n3)) fun n12 =>
shrK .u64 v n12 fun n13 =>
ixa s1 n11 1 fun a4 =>
stc w5 a4 (.int .u64 n13) fun w6 =>
J1 w6) (
J1 w5)) fun  w7 =>
bnd (wi (x + 1)) fun n14 =>
C0 n14 w7) (
J0 w4)) 0 w3) fun  w8 =>
cl Pg F.limb_trim [s1.v] w8 [.one .slice] fun (s2 : Sl) w9 =>
R (s2.v) w9)
def Dc.limb_Shl : Dc := { N := 65, va := [], vb := [], ann := [(2, 0, []), (3, 8, [(30, .one (.int .i64))]), (1, 12, [])], ext := Xt }
theorem Eq.limb_Shl (a : Sl) (n : Int) (R : Value → TW → Prop) (w : TW) : denF Pg Dc.limb_Shl Go.Proofs.Try.f57 (Go.Proofs.Try.f57.body.getD .skip) [a.v, .int .i64 n] w R = Sh.limb_Shl a n R w := by kernel_rfl
theorem Ct.limb_Shl {a : Sl} {n : Int} {w : TW} {X : Nat → Prop} {K : Tel (fl [.one .slice]) (TW → Prop)} (h : Sh.limb_Shl a n (Rt X [.one .slice] K w) w.here) : Ct Pg F.limb_Shl [a.v, .int .i64 n] w X [.one .slice] K :=
  ct_of_den (D := Dc.limb_Shl) (fn := Go.Proofs.Try.f57) Xt_ok follows_ok (by kernel_rfl) (by kernel_rfl) (by kernel_rfl) (Eq.mpr (Eq.limb_Shl a n _ _) h)

def Sh.limb_Shr (a : Sl) (n : Int) (R : Value → TW → Prop) (w : TW) : Prop :=
cl Pg F.limb_within [.int .i64 n, .int .i64 1048576] w [.one (.int .i64)] fun (r : Int) w1 =>
cl Pg F.limb_trim [a.v] w1 [.one .slice] fun (s : Sl) w2 =>
divK .i64 r 64 fun n1 =>
remK r 64 fun n2 =>
bnd (wu (n2)) fun n3 =>
cond (decide ((n1 : Int) ≥ (s.n : Int))) (
R (.slice none 0 0) w2) (
bnd (wi ((s.n : Int) - n1)) fun n4 =>
mks w2 n4 n4 T.uint64 8 [.int .u64 0] fun s1 w3 =>
Jn [] (fun J0 =>
Lp [.int .i64] (fun (x : Int) w4 C0 =>
cond (decide ((x : Int) < (s1.n : Int))) (
bnd (wi (x + n1)) fun n5 =>
ixa s n5 1 fun a1 =>
ldc (.int .u64) w4 a1 fun (v : Int) =>
shrK .u64 v n3 fun n6 =>
ixa s1 x 1 fun a2 =>
stc w4 a2 (.int .u64 n6) fun w5 =>
Jn [.bool] (fun J1 =>
cond (decide ((n3 : Int) > 0)) (
bnd (wi (x + n1)) fun n7 =>
bnd (wi (n7 + 1)) fun n8 =>
J1 (decide ((n8 : Int) < (s.n : Int))) w5) (
J1 false w5)) fun (x1 : Bool) w6 =>
Jn [] (fun J2 =>
cond x1 (
ixa s1 x 1 fun a3 =>
ldc (.int .u64) w6.drew a3 fun (v1 : Int) =>
bnd (wi (x + n1)) fun n9 =>
bnd (wi (n9 + 1)) fun n10 =>
ixa s n10 1 fun a4 =>
ldc (.int .u64) w6.drew a4 fun (v2 : Int) =>
bnd (wu (64 - n3)) fun n11 =>
shlK .u64 v2 n11 fun n12 =>
bnd (bits2 .or .u64 v1 n12) fun n13 =>
ixa s1 x 1 fun a5 =>
stc w6.drew a5 (.int .u64 n13) fun w7 =>
J2 w7) (
J2 w6)) fun  w8 =>
bnd (wi (x + 1)) fun n14 =>
C0 n14 w8) (
J0 w4)) 0 w3) fun  w9 =>
cl Pg F.limb_trim [s1.v] w9 [.one .slice] fun (s2 : Sl) w10 =>
R (s2.v) w10)
def Dc.limb_Shr : Dc := { N := 75, va := [], vb := [], ann := [(2, 0, []), (3, 8, [(29, .one (.int .i64))]), (0, 11, [(53, .one .bool)]), (1, 12, [])], ext := Xt }
theorem Eq.limb_Shr (a : Sl) (n : Int) (R : Value → TW → Prop) (w : TW) : denF Pg Dc.limb_Shr Go.Proofs.Try.f58 (Go.Proofs.Try.f58.body.getD .skip) [a.v, .int .i64 n] w R = Sh.limb_Shr a n R w := by kernel_rfl
theorem Ct.limb_Shr {a : Sl} {n : Int} {w : TW} {X : Nat → Prop} {K : Tel (fl [.one .slice]) (TW → Prop)} (h : Sh.limb_Shr a n (Rt X [.one .slice] K w) w.here) : Ct Pg F.limb_Shr [a.v, .int .i64 n] w X [.one .slice] K :=
  ct_of_den (D := Dc.limb_Shr) (fn := Go.Proofs.Try.f58) Xt_ok follows_ok (by kernel_rfl) (by kernel_rfl) (by kernel_rfl) (Eq.mpr (Eq.limb_Shr a n _ _) h)

def Sh.limb_Low (a : Sl) (n : Int) (R : Value → TW → Prop) (w : TW) : Prop :=
cl Pg F.limb_within [.int .i64 n, .int .i64 1048576] w [.one (.int .i64)] fun (r : Int) w1 =>
cl Pg F.limb_trim [a.v] w1 [.one .slice] fun (s : Sl) w2 =>
divK .i64 r 64 fun n1 =>
remK r 64 fun n2 =>
bnd (wu (n2)) fun n3 =>
cond (decide ((n1 : Int) ≥ (s.n : Int))) (
apd w2 T.uint64 1 8 Sl.nil s fun s1 w3 =>
R (s1.v) w3) (
slc s 0 n1 1 fun s2 =>
apd w2 T.uint64 1 8 Sl.nil s2 fun s3 w4 =>
Jn [.slice] (fun J0 =>
cond (decide ((n3 : Int) > 0)) (
ixa s n1 1 fun a1 =>
ldc (.int .u64) w4 a1 fun (v : Int) =>
shlK .u64 1 n3 fun n4 =>
bnd (wu (n4 - 1)) fun n5 =>
bnd (bits2 .and .u64 v n5) fun n6 =>
nwb w4 [.int .u64 n6] T.uint64 fun b w5 =>
apd w5 T.uint64 1 8 s3 ⟨(some ⟨b, 0, none⟩), 1, 1⟩ fun s4 w6 =>
J0 s4 w6) (
J0 s3 w4)) fun (out : Sl) w7 =>
cl Pg F.limb_trim [out.v] w7 [.one .slice] fun (s5 : Sl) w8 =>
R (s5.v) w8)
def Dc.limb_Low : Dc := { N := 42, va := [], vb := [], ann := [(1, 8, [(7, .one .slice)])], ext := Xt }
theorem Eq.limb_Low (a : Sl) (n : Int) (R : Value → TW → Prop) (w : TW) : denF Pg Dc.limb_Low Go.Proofs.Try.f59 (Go.Proofs.Try.f59.body.getD .skip) [a.v, .int .i64 n] w R = Sh.limb_Low a n R w := by kernel_rfl
theorem Ct.limb_Low {a : Sl} {n : Int} {w : TW} {X : Nat → Prop} {K : Tel (fl [.one .slice]) (TW → Prop)} (h : Sh.limb_Low a n (Rt X [.one .slice] K w) w.here) : Ct Pg F.limb_Low [a.v, .int .i64 n] w X [.one .slice] K :=
  ct_of_den (D := Dc.limb_Low) (fn := Go.Proofs.Try.f59) Xt_ok follows_ok (by kernel_rfl) (by kernel_rfl) (by kernel_rfl) (Eq.mpr (Eq.limb_Low a n _ _) h)

def Sh.limb_DivWord (a : Sl) (y : Int) (R : Value → TW → Prop) (w : TW) : Prop :=
cond ((y : Int) == 0) (
R (.tuple #[.slice none 0 0, .int .u64 0, .int .i64 2]) w) (
cl Pg F.limb_trim [a.v] w [.one .slice] fun (s : Sl) w1 =>
mks w1 (s.n : Int) (s.n : Int) T.uint64 8 [.int .u64 0] fun s1 w2 =>
bnd (wi ((s.n : Int) - 1)) fun n =>
Jn [.int .u64] (fun J0 =>
Lp [.int .u64, .int .i64] (fun (r : Int) (i : Int) w3 C0 =>
cond (decide ((i : Int) ≥ 0)) (
ixa s i 1 fun a1 =>
ldc (.int .u64) w3 a1 fun (v : Int) =>
cl Pg F.bits_Div64 [.int .u64 r, .int .u64 v, .int .u64 y] w3 [.one (.int .u64), .one (.int .u64)] fun (r1 : Int) (r2 : Int) w4 =>
ixa s1 i 1 fun a2 =>
stc w4 a2 (.int .u64 r1) fun w5 =>
bnd (wi (i - 1)) fun n1 =>
C0 r2 n1 w5) (
J0 r w3)) 0 n w2) fun (r3 : Int) w6 =>
cl Pg F.limb_trim [s1.v] w6 [.one .slice] fun (s2 : Sl) w7 =>
R (.tuple #[s2.v, .int .u64 r3, .int .i64 0]) w7)
def Dc.limb_DivWord : Dc := { N := 40, va := [], vb := [], ann := [(2, 0, [(8, .one (.int .u64))]), (3, 7, [(8, .one (.int .u64)), (9, .one (.int .i64))])], ext := Xt }
theorem Eq.limb_DivWord (a : Sl) (y : Int) (R : Value → TW → Prop) (w : TW) : denF Pg Dc.limb_DivWord Go.Proofs.Try.f60 (Go.Proofs.Try.f60.body.getD .skip) [a.v, .int .u64 y] w R = Sh.limb_DivWord a y R w := by kernel_rfl
theorem Ct.limb_DivWord {a : Sl} {y : Int} {w : TW} {X : Nat → Prop} {K : Tel (fl [.one .slice, .one (.int .u64), .one (.int .i64)]) (TW → Prop)} (h : Sh.limb_DivWord a y (Rt X [.one .slice, .one (.int .u64), .one (.int .i64)] K w) w.here) : Ct Pg F.limb_DivWord [a.v, .int .u64 y] w X [.one .slice, .one (.int .u64), .one (.int .i64)] K :=
  ct_of_den (D := Dc.limb_DivWord) (fn := Go.Proofs.Try.f60) Xt_ok follows_ok (by kernel_rfl) (by kernel_rfl) (by kernel_rfl) (Eq.mpr (Eq.limb_DivWord a y _ _) h)

def Sh.limb_within (n : Int) (most : Int) (R : Value → TW → Prop) (w : TW) : Prop :=
bnd (if (most : Int) < n then most else n) fun n1 =>
bnd (if (n1 : Int) > 0 then n1 else 0) fun n2 =>
R (.int .i64 n2) w
def Dc.limb_within : Dc := { N := 9, va := [], vb := [], ann := [], ext := Xt }
theorem Eq.limb_within (n : Int) (most : Int) (R : Value → TW → Prop) (w : TW) : denF Pg Dc.limb_within Go.Proofs.Try.f68 (Go.Proofs.Try.f68.body.getD .skip) [.int .i64 n, .int .i64 most] w R = Sh.limb_within n most R w := by kernel_rfl
theorem Ct.limb_within {n : Int} {most : Int} {w : TW} {X : Nat → Prop} {K : Tel (fl [.one (.int .i64)]) (TW → Prop)} (h : Sh.limb_within n most (Rt X [.one (.int .i64)] K w) w.here) : Ct Pg F.limb_within [.int .i64 n, .int .i64 most] w X [.one (.int .i64)] K :=
  ct_of_den (D := Dc.limb_within) (fn := Go.Proofs.Try.f68) Xt_ok follows_ok (by kernel_rfl) (by kernel_rfl) (by kernel_rfl) (Eq.mpr (Eq.limb_within n most _ _) h)

def Sh.limb_trim (a : Sl) (R : Value → TW → Prop) (w : TW) : Prop :=
cl Pg F.api_Nat_Len [a.v] w [.one (.int .i64)] fun (r : Int) w1 =>
slc a 0 r 1 fun s =>
R (s.v) w1
def Dc.limb_trim : Dc := { N := 7, va := [], vb := [], ann := [], ext := Xt }
theorem Eq.limb_trim (a : Sl) (R : Value → TW → Prop) (w : TW) : denF Pg Dc.limb_trim Go.Proofs.Try.f70 (Go.Proofs.Try.f70.body.getD .skip) [a.v] w R = Sh.limb_trim a R w := by kernel_rfl
theorem Ct.limb_trim {a : Sl} {w : TW} {X : Nat → Prop} {K : Tel (fl [.one .slice]) (TW → Prop)} (h : Sh.limb_trim a (Rt X [.one .slice] K w) w.here) : Ct Pg F.limb_trim [a.v] w X [.one .slice] K :=
  ct_of_den (D := Dc.limb_trim) (fn := Go.Proofs.Try.f70) Xt_ok follows_ok (by kernel_rfl) (by kernel_rfl) (by kernel_rfl) (Eq.mpr (Eq.limb_trim a _ _) h)
end Go.Proofs.Ythhohfgpaihngaa.Zg
end

section
set_option maxRecDepth 100000
namespace Go.Proofs.Ythhohfgpaihngaa.Zg
def Sh.meter_Meter_Muls (m : Option Addr) (R : Value → TW → Prop) (w : TW) : Prop :=
nck m fun a =>
ldc (.int .i64) w a fun (v : Int) =>
R (.int .i64 v) w
def Dc.meter_Meter_Muls : Dc := { N := 7, va := [], vb := [], ann := [], ext := Xt }
theorem Eq.meter_Meter_Muls (m : Option Addr) (R : Value → TW → Prop) (w : TW) : denF Pg Dc.meter_Meter_Muls Go.Proofs.Try.f22 (Go.Proofs.Try.f22.body.getD .skip) [.pointer m] w R = Sh.meter_Meter_Muls m R w := by kernel_rfl
theorem Ct.meter_Meter_Muls {m : Option Addr} {w : TW} {X : Nat → Prop} {K : Tel (fl [.one (.int .i64)]) (TW → Prop)} (h : Sh.meter_Meter_Muls m (Rt X [.one (.int .i64)] K w) w.here) : Ct Pg F.meter_Meter_Muls [.pointer m] w X [.one (.int .i64)] K :=
  ct_of_den (D := Dc.meter_Meter_Muls) (fn := Go.Proofs.Try.f22) Xt_ok follows_ok (by kernel_rfl) (by kernel_rfl) (by kernel_rfl) (Eq.mpr (Eq.meter_Meter_Muls m _ _) h)

def Sh.meter_Meter_Spend (m : Option Addr) (n : Int) (R : Value → TW → Prop) (w : TW) : Prop :=
Jn [] (fun J0 =>
cond (decide ((n : Int) > 0)) (
nck m fun a =>
ldc (.int .i64) w a fun (v : Int) =>
bnd (wi (v + n)) fun n1 =>
nck m fun a1 =>
stc w a1 (.int .i64 n1) fun w1 =>
J0 w1) (
J0 w)) fun  w2 =>
nck m fun a2 =>
ldc (.int .i64) w2 a2 fun (v1 : Int) =>
R (.int .i64 v1) w2
def Dc.meter_Meter_Spend : Dc := { N := 20, va := [], vb := [], ann := [(1, 2, [])], ext := Xt }
theorem Eq.meter_Meter_Spend (m : Option Addr) (n : Int) (R : Value → TW → Prop) (w : TW) : denF Pg Dc.meter_Meter_Spend Go.Proofs.Try.f47 (Go.Proofs.Try.f47.body.getD .skip) [.pointer m, .int .i64 n] w R = Sh.meter_Meter_Spend m n R w := by kernel_rfl
theorem Ct.meter_Meter_Spend {m : Option Addr} {n : Int} {w : TW} {X : Nat → Prop} {K : Tel (fl [.one (.int .i64)]) (TW → Prop)} (h : Sh.meter_Meter_Spend m n (Rt X [.one (.int .i64)] K w) w.here) : Ct Pg F.meter_Meter_Spend [.pointer m, .int .i64 n] w X [.one (.int .i64)] K :=
  ct_of_den (D := Dc.meter_Meter_Spend) (fn := Go.Proofs.Try.f47) Xt_ok follows_ok (by kernel_rfl) (by kernel_rfl) (by kernel_rfl) (Eq.mpr (Eq.meter_Meter_Spend m n _ _) h)

def Sh.meter_Meter_Reset (m : Option Addr) (R : Value → TW → Prop) (w : TW) : Prop :=
nck m fun a =>
stc w a (.int .i64 0) fun w1 =>
stc w1 (a.add 1) (.int .i64 0) fun w2 =>
stc w2 (a.add 2) (.int .i64 0) fun w3 =>
R (.tuple #[]) w3
def Dc.meter_Meter_Reset : Dc := { N := 5, va := [], vb := [], ann := [], ext := Xt }
theorem Eq.meter_Meter_Reset (m : Option Addr) (R : Value → TW → Prop) (w : TW) : denF Pg Dc.meter_Meter_Reset Go.Proofs.Try.f48 (Go.Proofs.Try.f48.body.getD .skip) [.pointer m] w R = Sh.meter_Meter_Reset m R w := by kernel_rfl
theorem Ct.meter_Meter_Reset {m : Option Addr} {w : TW} {X : Nat → Prop} {K : Tel (fl []) (TW → Prop)} (h : Sh.meter_Meter_Reset m (Rt X [] K w) w.here) : Ct Pg F.meter_Meter_Reset [.pointer m] w X [] K :=
  ct_of_den (D := Dc.meter_Meter_Reset) (fn := Go.Proofs.Try.f48) Xt_ok follows_ok (by kernel_rfl) (by kernel_rfl) (by kernel_rfl) (Eq.mpr (Eq.meter_Meter_Reset m _ _) h)
end Go.Proofs.Ythhohfgpaihngaa.Zg
end

section
set_option maxRecDepth 100000
namespace Go.Proofs.Ythhohfgpaihngaa.Zg
def Sh.school_New (t : HL [.int .i64, .int .i64, .int .i64, .int .i64, .int .i64, .int .i64, .int .i64, .int .i64, .int .i64, .int .i64, .int .i64]) (R : Value → TW → Prop) (w : TW) : Prop :=
nwv w fun w1 =>
cl Pg F.table_New [.agg #[.int .i64 t.1, .int .i64 t.2.1, .int .i64 t.2.2.1, .int .i64 t.2.2.2.1, .int .i64 t.2.2.2.2.1, .int .i64 t.2.2.2.2.2.1, .int .i64 t.2.2.2.2.2.2.1, .int .i64 t.2.2.2.2.2.2.2.1, .int .i64 t.2.2.2.2.2.2.2.2.1, .int .i64 t.2.2.2.2.2.2.2.2.2.1, .int .i64 t.2.2.2.2.2.2.2.2.2.2.1]] w1 [.one .ptr] fun (p : Option Addr) w2 =>
nwb w2 [.pointer p] T.school_Engine fun b w3 =>
R (.pointer (some ⟨b, 0, none⟩)) w3
def Dc.school_New : Dc := { N := 7, va := [(1, 7)], vb := [(7, 11)], ann := [], ext := Xt }
theorem Eq.school_New (t : HL [.int .i64, .int .i64, .int .i64, .int .i64, .int .i64, .int .i64, .int .i64, .int .i64, .int .i64, .int .i64, .int .i64]) (R : Value → TW → Prop) (w : TW) : denF Pg Dc.school_New Go.Proofs.Try.f16 (Go.Proofs.Try.f16.body.getD .skip) [.agg (encs [.int .i64, .int .i64, .int .i64, .int .i64, .int .i64, .int .i64, .int .i64, .int .i64, .int .i64, .int .i64, .int .i64] t).toArray] w R = Sh.school_New t R w := by kernel_rfl
theorem Ct.school_New {t : HL [.int .i64, .int .i64, .int .i64, .int .i64, .int .i64, .int .i64, .int .i64, .int .i64, .int .i64, .int .i64, .int .i64]} {w : TW} {X : Nat → Prop} {K : Tel (fl [.one .ptr]) (TW → Prop)} (h : Sh.school_New t (Rt X [.one .ptr] K w) w.here) : Ct Pg F.school_New [.agg (encs [.int .i64, .int .i64, .int .i64, .int .i64, .int .i64, .int .i64, .int .i64, .int .i64, .int .i64, .int .i64, .int .i64] t).toArray] w X [.one .ptr] K :=
  ct_of_den (D := Dc.school_New) (fn := Go.Proofs.Try.f16) Xt_ok follows_ok (by kernel_rfl) (by kernel_rfl) (by kernel_rfl) (Eq.mpr (Eq.school_New t _ _) h)

def Sh.school_Engine_Mul (e0 : Option Addr) (a : Sl) (b : Sl) (R : Value → TW → Prop) (w : TW) : Prop :=
nck e0 fun a1 =>
ldc (.ptr) w a1 fun (v : Option Addr) =>
nck v fun a2 =>
bnd (wi ((a.n : Int) * (b.n : Int))) fun n =>
cl Pg F.meter_Meter_Spend [.pointer (some a2), .int .i64 n] w [.one (.int .i64)] fun (_ : Int) w1 =>
bnd (wi ((a.n : Int) + (b.n : Int))) fun n1 =>
mks w1 n1 n1 T.uint64 8 [.int .u64 0] fun s w2 =>
Jn [] (fun J0 =>
Lp [.int .i64] (fun (x : Int) w3 C0 =>
cond (decide ((x : Int) < (a.n : Int))) (
ixa a x 1 fun a3 =>
ldc (.int .u64) w3 a3 fun (v1 : Int) =>
Jn [.int .u64] (fun J1 =>
Lp [.int .u64, .int .i64] (fun (c : Int) (x1 : Int) w4 C1 =>
cond (decide ((x1 : Int) < (b.n : Int))) (
ixa b x1 1 fun a4 =>
ldc (.int .u64) w4 a4 fun (v2 : Int) =>
cl Pg F.bits_Mul64 [.int .u64 v1, .int .u64 v2] w4 [.one (.int .u64), .one (.int .u64)] fun (r1 : Int) (r2 : Int) w5 =>
add64 r2 c 0 fun s1 c1 =>
bnd (wu (r1 + c1)) fun n2 =>
bnd (wi (x + x1)) fun n3 =>
bnd (wi (x + x1)) fun n4 =>
ixa s n4 1 fun a5 =>
ldc (.int .u64) w5 a5 fun (v3 : Int) =>
add64 v3 s1 0 fun s2 c2 =>
ixa s n3 1 fun a6 =>
stc w5 a6 (.int .u64 s2) fun w6 =>
bnd (wu (n2 + c2)) fun n5 =>
bnd (wi (x1 + 1)) fun n6 =>
C1 n5 n6 w6) (
J1 c w4)) 0 0 w3) fun (c3 : Int) w7 =>
bnd (wi (x + (b.n : Int))) fun n7 =>
ixa s n7 1 fun a7 =>
stc w7 a7 (.int .u64 c3) fun w8 =>
bnd (wi (x + 1)) fun n8 =>
C0 n8 w8) (
J0 w3)) 0 w2) fun  w9 =>
cl Pg F.limb_Norm [s.v] w9 [.one .slice] fun (s3 : Sl) w10 =>
R (s3.v) w10
def Dc.school_Engine_Mul : Dc := { N := 94, va := [], vb := [], ann := [(2, 0, []), (3, 4, [(37, .one (.int .i64))]), (2, 2, [(10, .one (.int .u64))]), (3, 8, [(10, .one (.int .u64)), (44, .one (.int .i64))])], ext := Xt }
theorem Eq.school_Engine_Mul (e0 : Option Addr) (a : Sl) (b : Sl) (R : Value → TW → Prop) (w : TW) : denF Pg Dc.school_Engine_Mul Go.Proofs.Try.f18 (Go.Proofs.Try.f18.body.getD .skip) [.pointer e0, a.v, b.v] w R = Sh.school_Engine_Mul e0 a b R w := by kernel_rfl
theorem Ct.school_Engine_Mul {e0 : Option Addr} {a : Sl} {b : Sl} {w : TW} {X : Nat → Prop} {K : Tel (fl [.one .slice]) (TW → Prop)} (h : Sh.school_Engine_Mul e0 a b (Rt X [.one .slice] K w) w.here) : Ct Pg F.school_Engine_Mul [.pointer e0, a.v, b.v] w X [.one .slice] K :=
  ct_of_den (D := Dc.school_Engine_Mul) (fn := Go.Proofs.Try.f18) Xt_ok follows_ok (by kernel_rfl) (by kernel_rfl) (by kernel_rfl) (Eq.mpr (Eq.school_Engine_Mul e0 a b _ _) h)

def Sh.school_Engine_Power (e0 : Option Addr) (a : Sl) (n : Int) (R : Value → TW → Prop) (w : TW) : Prop :=
cl Pg F.limb_One [.int .u64 1] w [.one .slice] fun (s : Sl) w1 =>
bnd (if (64 : Int) < n then 64 else n) fun n1 =>
bnd (if (n1 : Int) > 0 then n1 else 0) fun n2 =>
Jn [.slice] (fun J0 =>
Lp [.slice, .int .i64] (fun (out : Sl) (x : Int) w2 C0 =>
cond (decide ((x : Int) < n2)) (
cl Pg F.school_Engine_Mul [.pointer e0, out.v, a.v] w2 [.one .slice] fun (s1 : Sl) w3 =>
bnd (wi (x + 1)) fun n3 =>
C0 s1 n3 w3) (
J0 out w2)) s 0 w1) fun (out1 : Sl) w4 =>
R (out1.v) w4
def Dc.school_Engine_Power : Dc := { N := 20, va := [], vb := [], ann := [(2, 0, [(7, .one .slice)]), (3, 3, [(7, .one .slice), (12, .one (.int .i64))])], ext := Xt }
theorem Eq.school_Engine_Power (e0 : Option Addr) (a : Sl) (n : Int) (R : Value → TW → Prop) (w : TW) : denF Pg Dc.school_Engine_Power Go.Proofs.Try.f36 (Go.Proofs.Try.f36.body.getD .skip) [.pointer e0, a.v, .int .i64 n] w R = Sh.school_Engine_Power e0 a n R w := by kernel_rfl
theorem Ct.school_Engine_Power {e0 : Option Addr} {a : Sl} {n : Int} {w : TW} {X : Nat → Prop} {K : Tel (fl [.one .slice]) (TW → Prop)} (h : Sh.school_Engine_Power e0 a n (Rt X [.one .slice] K w) w.here) : Ct Pg F.school_Engine_Power [.pointer e0, a.v, .int .i64 n] w X [.one .slice] K :=
  ct_of_den (D := Dc.school_Engine_Power) (fn := Go.Proofs.Try.f36) Xt_ok follows_ok (by kernel_rfl) (by kernel_rfl) (by kernel_rfl) (Eq.mpr (Eq.school_Engine_Power e0 a n _ _) h)

def Sh.school_Engine_Sqr (e0 : Option Addr) (a : Sl) (R : Value → TW → Prop) (w : TW) : Prop :=
nck e0 fun a1 =>
ldc (.ptr) w a1 fun (v : Option Addr) =>
nck v fun a2 =>
bnd (wi ((a.n : Int) + 1)) fun n =>
bnd (wi ((a.n : Int) * n)) fun n1 =>
divK .i64 n1 2 fun n2 =>
cl Pg F.meter_Meter_Spend [.pointer (some a2), .int .i64 n2] w [.one (.int .i64)] fun (_ : Int) w1 =>
bnd (wi (2 * (a.n : Int))) fun n3 =>
mks w1 n3 n3 T.uint64 8 [.int .u64 0] fun s w2 =>
Jn [] (fun J0 =>
Lp [.int .i64] (fun (x : Int) w3 C0 =>
cond (decide ((x : Int) < (a.n : Int))) (
ixa a x 1 fun a3 =>
ldc (.int .u64) w3 a3 fun (v1 : Int) =>
bnd (wi (x + 1)) fun n4 =>
Jn [.int .u64] (fun J1 =>
Lp [.int .u64, .int .i64] (fun (c : Int) (j : Int) w4 C1 =>
cond (decide ((j : Int) < (a.n : Int))) (
ixa a j 1 fun a4 =>
ldc (.int .u64) w4 a4 fun (v2 : Int) =>
cl Pg F.bits_Mul64 [.int .u64 v1, .int .u64 v2] w4 [.one (.int .u64), .one (.int .u64)] fun (r1 : Int) (r2 : Int) w5 =>
add64 r2 c 0 fun s1 c1 =>
bnd (wu (r1 + c1)) fun n5 =>
bnd (wi (x + j)) fun n6 =>
bnd (wi (x + j)) fun n7 =>
ixa s n7 1 fun a5 =>
ldc (.int .u64) w5 a5 fun (v3 : Int) =>
add64 v3 s1 0 fun s2 c2 =>
ixa s n6 1 fun a6 =>
stc w5 a6 (.int .u64 s2) fun w6 =>
bnd (wu (n5 + c2)) fun n8 =>
bnd (wi (j + 1)) fun n9 =>
C1 n8 n9 w6) (
J1 c w4)) 0 n4 w3) fun (c3 : Int) w7 =>
bnd (wi (x + (a.n : Int))) fun n10 =>
ixa s n10 1 fun a7 =>
stc w7 a7 (.int .u64 c3) fun w8 =>
bnd (wi (x + 1)) fun n11 =>
C0 n11 w8) (
J0 w3)) 0 w2) fun  w9 =>
Jn [] (fun J2 =>
Lp [.int .u64, .int .u64, .int .i64] (fun (c4 : Int) (high : Int) (x1 : Int) w10 C2 =>
cond (decide ((x1 : Int) < (a.n : Int))) (
ixa a x1 1 fun a8 =>
ldc (.int .u64) w10 a8 fun (v4 : Int) =>
cl Pg F.bits_Mul64 [.int .u64 v4, .int .u64 v4] w10 [.one (.int .u64), .one (.int .u64)] fun (r3 : Int) (r4 : Int) w11 =>
bnd (wi (2 * x1)) fun n12 =>
ixa s n12 1 fun a9 =>
ldc (.int .u64) w11.drew a9 fun (v5 : Int) =>
bnd (wi (2 * x1)) fun n13 =>
bnd (wi (n13 + 1)) fun n14 =>
ixa s n14 1 fun a10 =>
ldc (.int .u64) w11.drew a10 fun (v6 : Int) =>
shlK .u64 v5 1 fun n15 =>
bnd (bits2 .or .u64 n15 high) fun n16 =>
add64 n16 r4 c4 fun s3 c5 =>
bnd (wi (2 * x1)) fun n17 =>
ixa s n17 1 fun a11 =>
stc w11.drew a11 (.int .u64 s3) fun w12 =>
shlK .u64 v6 1 fun n18 =>
shrK .u64 v5 63 fun n19 =>
bnd (bits2 .or .u64 n18 n19) fun n20 =>
add64 n20 r3 c5 fun s4 c6 =>
bnd (wi (2 * x1)) fun n21 =>
bnd (wi (n21 + 1)) fun n22 =>
ixa s n22 1 fun a12 =>
stc w12 a12 (.int .u64 s4) fun w13 =>
shrK .u64 v6 63 fun n23 =>
bnd (wi (x1 + 1)) fun n24 =>
C2 c6 n23 n24 w13) (
J2 w10)) 0 0 0 w9) fun  w14 =>
cl Pg F.limb_Norm [s.v] w14 [.one .slice] fun (s5 : Sl) w15 =>
R (s5.v) w15
def Dc.school_Engine_Sqr : Dc := { N := 161, va := [], vb := [], ann := [(2, 0, []), (3, 5, [(44, .one (.int .i64))]), (2, 2, [(9, .one (.int .u64))]), (3, 9, [(9, .one (.int .u64)), (10, .one (.int .i64))]), (2, 4, []), (3, 21, [(15, .one (.int .u64)), (16, .one (.int .u64)), (102, .one (.int .i64))])], ext := Xt }
theorem Eq.school_Engine_Sqr (e0 : Option Addr) (a : Sl) (R : Value → TW → Prop) (w : TW) : denF Pg Dc.school_Engine_Sqr Go.Proofs.Try.f45 (Go.Proofs.Try.f45.body.getD .skip) [.pointer e0, a.v] w R = Sh.school_Engine_Sqr e0 a R w := by kernel_rfl
theorem Ct.school_Engine_Sqr {e0 : Option Addr} {a : Sl} {w : TW} {X : Nat → Prop} {K : Tel (fl [.one .slice]) (TW → Prop)} (h : Sh.school_Engine_Sqr e0 a (Rt X [.one .slice] K w) w.here) : Ct Pg F.school_Engine_Sqr [.pointer e0, a.v] w X [.one .slice] K :=
  ct_of_den (D := Dc.school_Engine_Sqr) (fn := Go.Proofs.Try.f45) Xt_ok follows_ok (by kernel_rfl) (by kernel_rfl) (by kernel_rfl) (Eq.mpr (Eq.school_Engine_Sqr e0 a _ _) h)
end Go.Proofs.Ythhohfgpaihngaa.Zg
end

section
set_option maxRecDepth 100000
namespace Go.Proofs.Ythhohfgpaihngaa.Zg
def Sh.table_New (t : HL [.int .i64, .int .i64, .int .i64, .int .i64, .int .i64, .int .i64, .int .i64, .int .i64, .int .i64, .int .i64, .int .i64]) (R : Value → TW → Prop) (w : TW) : Prop :=
nwv w fun w1 =>
cl Pg F.table_Clamp [.agg #[.int .i64 t.1, .int .i64 t.2.1, .int .i64 t.2.2.1, .int .i64 t.2.2.2.1, .int .i64 t.2.2.2.2.1, .int .i64 t.2.2.2.2.2.1, .int .i64 t.2.2.2.2.2.2.1, .int .i64 t.2.2.2.2.2.2.2.1, .int .i64 t.2.2.2.2.2.2.2.2.1, .int .i64 t.2.2.2.2.2.2.2.2.2.1, .int .i64 t.2.2.2.2.2.2.2.2.2.2.1]] w1 [.agg [.int .i64, .int .i64, .int .i64, .int .i64, .int .i64, .int .i64, .int .i64, .int .i64, .int .i64, .int .i64, .int .i64]] fun (r : Int) (r1 : Int) (r2 : Int) (r3 : Int) (r4 : Int) (r5 : Int) (r6 : Int) (r7 : Int) (r8 : Int) (r9 : Int) (r10 : Int) w2 =>
nwb w2 [.int .i64 0, .int .i64 0, .int .i64 0, .int .i64 r, .int .i64 r1, .int .i64 r2, .int .i64 r3, .int .i64 r4, .int .i64 r5, .int .i64 r6, .int .i64 r7, .int .i64 r8, .int .i64 r9, .int .i64 r10] T.table_Tune fun b w3 =>
R (.pointer (some ⟨b, 0, none⟩)) w3
def Dc.table_New : Dc := { N := 7, va := [(1, 7)], vb := [(7, 11)], ann := [], ext := Xt }
theorem Eq.table_New (t : HL [.int .i64, .int .i64, .int .i64, .int .i64, .int .i64, .int .i64, .int .i64, .int .i64, .int .i64, .int .i64, .int .i64]) (R : Value → TW → Prop) (w : TW) : denF Pg Dc.table_New Go.Proofs.Try.f62 (Go.Proofs.Try.f62.body.getD .skip) [.agg (encs [.int .i64, .int .i64, .int .i64, .int .i64, .int .i64, .int .i64, .int .i64, .int .i64, .int .i64, .int .i64, .int .i64] t).toArray] w R = Sh.table_New t R w := by kernel_rfl
theorem Ct.table_New {t : HL [.int .i64, .int .i64, .int .i64, .int .i64, .int .i64, .int .i64, .int .i64, .int .i64, .int .i64, .int .i64, .int .i64]} {w : TW} {X : Nat → Prop} {K : Tel (fl [.one .ptr]) (TW → Prop)} (h : Sh.table_New t (Rt X [.one .ptr] K w) w.here) : Ct Pg F.table_New [.agg (encs [.int .i64, .int .i64, .int .i64, .int .i64, .int .i64, .int .i64, .int .i64, .int .i64, .int .i64, .int .i64, .int .i64] t).toArray] w X [.one .ptr] K :=
  ct_of_den (D := Dc.table_New) (fn := Go.Proofs.Try.f62) Xt_ok follows_ok (by kernel_rfl) (by kernel_rfl) (by kernel_rfl) (Eq.mpr (Eq.table_New t _ _) h)

def Sh.table_Clamp (t : HL [.int .i64, .int .i64, .int .i64, .int .i64, .int .i64, .int .i64, .int .i64, .int .i64, .int .i64, .int .i64, .int .i64]) (R : Value → TW → Prop) (w : TW) : Prop :=
nwv w fun w1 =>
nwv w1 fun w2 =>
cl Pg F.table_within [.int .i64 t.1, .int .i64 4, .int .i64 64] w2.drew [.one (.int .i64)] fun (r : Int) w3 =>
cl Pg F.table_within [.int .i64 t.2.1, .int .i64 12, .int .i64 8192] w3 [.one (.int .i64)] fun (r1 : Int) w4 =>
cl Pg F.table_within [.int .i64 t.2.2.1, .int .i64 64, .int .i64 16384] w4 [.one (.int .i64)] fun (r2 : Int) w5 =>
cl Pg F.table_within [.int .i64 t.2.2.2.1, .int .i64 4, .int .i64 1024] w5 [.one (.int .i64)] fun (r3 : Int) w6 =>
cl Pg F.table_within [.int .i64 t.2.2.2.2.1, .int .i64 4, .int .i64 4096] w6 [.one (.int .i64)] fun (r4 : Int) w7 =>
cl Pg F.table_within [.int .i64 t.2.2.2.2.2.1, .int .i64 2, .int .i64 1024] w7 [.one (.int .i64)] fun (r5 : Int) w8 =>
cl Pg F.table_within [.int .i64 t.2.2.2.2.2.2.1, .int .i64 2, .int .i64 1024] w8 [.one (.int .i64)] fun (r6 : Int) w9 =>
cl Pg F.table_within [.int .i64 t.2.2.2.2.2.2.2.1, .int .i64 4, .int .i64 256] w9 [.one (.int .i64)] fun (r7 : Int) w10 =>
cl Pg F.table_within [.int .i64 t.2.2.2.2.2.2.2.2.1, .int .i64 4, .int .i64 1024] w10 [.one (.int .i64)] fun (r8 : Int) w11 =>
cl Pg F.table_within [.int .i64 t.2.2.2.2.2.2.2.2.2.1, .int .i64 2, .int .i64 1024] w11 [.one (.int .i64)] fun (r9 : Int) w12 =>
cl Pg F.table_within [.int .i64 t.2.2.2.2.2.2.2.2.2.2.1, .int .i64 2, .int .i64 256] w12 [.one (.int .i64)] fun (r10 : Int) w13 =>
nwv w13 fun w14 =>
R (.agg #[.int .i64 r, .int .i64 r1, .int .i64 r2, .int .i64 r3, .int .i64 r4, .int .i64 r5, .int .i64 r6, .int .i64 r7, .int .i64 r8, .int .i64 r9, .int .i64 r10]) w14
def Dc.table_Clamp : Dc := { N := 37, va := [(1, 37), (2, 48)], vb := [(37, 11), (48, 11)], ann := [], ext := Xt }
theorem Eq.table_Clamp (t : HL [.int .i64, .int .i64, .int .i64, .int .i64, .int .i64, .int .i64, .int .i64, .int .i64, .int .i64, .int .i64, .int .i64]) (R : Value → TW → Prop) (w : TW) : denF Pg Dc.table_Clamp Go.Proofs.Try.f76 (Go.Proofs.Try.f76.body.getD .skip) [.agg (encs [.int .i64, .int .i64, .int .i64, .int .i64, .int .i64, .int .i64, .int .i64, .int .i64, .int .i64, .int .i64, .int .i64] t).toArray] w R = Sh.table_Clamp t R w := by kernel_rfl
theorem Ct.table_Clamp {t : HL [.int .i64, .int .i64, .int .i64, .int .i64, .int .i64, .int .i64, .int .i64, .int .i64, .int .i64, .int .i64, .int .i64]} {w : TW} {X : Nat → Prop} {K : Tel (fl [.agg [.int .i64, .int .i64, .int .i64, .int .i64, .int .i64, .int .i64, .int .i64, .int .i64, .int .i64, .int .i64, .int .i64]]) (TW → Prop)} (h : Sh.table_Clamp t (Rt X [.agg [.int .i64, .int .i64, .int .i64, .int .i64, .int .i64, .int .i64, .int .i64, .int .i64, .int .i64, .int .i64, .int .i64]] K w) w.here) : Ct Pg F.table_Clamp [.agg (encs [.int .i64, .int .i64, .int .i64, .int .i64, .int .i64, .int .i64, .int .i64, .int .i64, .int .i64, .int .i64, .int .i64] t).toArray] w X [.agg [.int .i64, .int .i64, .int .i64, .int .i64, .int .i64, .int .i64, .int .i64, .int .i64, .int .i64, .int .i64, .int .i64]] K :=
  ct_of_den (D := Dc.table_Clamp) (fn := Go.Proofs.Try.f76) Xt_ok follows_ok (by kernel_rfl) (by kernel_rfl) (by kernel_rfl) (Eq.mpr (Eq.table_Clamp t _ _) h)

def Sh.table_within (n : Int) (least : Int) (most : Int) (R : Value → TW → Prop) (w : TW) : Prop :=
bnd (if (most : Int) < n then most else n) fun n1 =>
bnd (if (n1 : Int) > least then n1 else least) fun n2 =>
R (.int .i64 n2) w
def Dc.table_within : Dc := { N := 12, va := [], vb := [], ann := [], ext := Xt }
theorem Eq.table_within (n : Int) (least : Int) (most : Int) (R : Value → TW → Prop) (w : TW) : denF Pg Dc.table_within Go.Proofs.Try.f78 (Go.Proofs.Try.f78.body.getD .skip) [.int .i64 n, .int .i64 least, .int .i64 most] w R = Sh.table_within n least most R w := by kernel_rfl
theorem Ct.table_within {n : Int} {least : Int} {most : Int} {w : TW} {X : Nat → Prop} {K : Tel (fl [.one (.int .i64)]) (TW → Prop)} (h : Sh.table_within n least most (Rt X [.one (.int .i64)] K w) w.here) : Ct Pg F.table_within [.int .i64 n, .int .i64 least, .int .i64 most] w X [.one (.int .i64)] K :=
  ct_of_den (D := Dc.table_within) (fn := Go.Proofs.Try.f78) Xt_ok follows_ok (by kernel_rfl) (by kernel_rfl) (by kernel_rfl) (Eq.mpr (Eq.table_within n least most _ _) h)
end Go.Proofs.Ythhohfgpaihngaa.Zg
end

section
set_option maxRecDepth 100000
namespace Go.Proofs.Ythhohfgpaihngaa.Zg
def Sh.zigguratkeep_Cut (a : Sl) (n : Int) (R : Value → TW → Prop) (w : TW) : Prop :=
bnd (if (n : Int) < (a.n : Int) then n else (a.n : Int)) fun n1 =>
slc a 0 n1 1 fun s =>
R (s.v) w
def Dc.zigguratkeep_Cut : Dc := { N := 11, va := [], vb := [], ann := [], ext := Xt }
theorem Eq.zigguratkeep_Cut (a : Sl) (n : Int) (R : Value → TW → Prop) (w : TW) : denF Pg Dc.zigguratkeep_Cut Go.Proofs.Try.f15 (Go.Proofs.Try.f15.body.getD .skip) [a.v, .int .i64 n] w R = Sh.zigguratkeep_Cut a n R w := by kernel_rfl
theorem Ct.zigguratkeep_Cut {a : Sl} {n : Int} {w : TW} {X : Nat → Prop} {K : Tel (fl [.one .slice]) (TW → Prop)} (h : Sh.zigguratkeep_Cut a n (Rt X [.one .slice] K w) w.here) : Ct Pg F.zigguratkeep_Cut [a.v, .int .i64 n] w X [.one .slice] K :=
  ct_of_den (D := Dc.zigguratkeep_Cut) (fn := Go.Proofs.Try.f15) Xt_ok follows_ok (by kernel_rfl) (by kernel_rfl) (by kernel_rfl) (Eq.mpr (Eq.zigguratkeep_Cut a n _ _) h)

def Sh.zigguratkeep_Lend (a : Sl) (R : Value → TW → Prop) (w : TW) : Prop :=
bnd (wi ((a.n : Int) + 4)) fun n =>
mks w (a.n : Int) n T.uint64 8 [.int .u64 0] fun s w1 =>
cpy w1 T.uint64 s a fun _ w2 =>
bnd (wi ((a.n : Int) + 4)) fun n2 =>
slc s 0 n2 1 fun s1 =>
Jn [] (fun J0 =>
Lp [.int .i64] (fun (i : Int) w3 C0 =>
cond (decide ((i : Int) < (s1.n : Int))) (
ixa s1 i 1 fun a1 =>
stc w3 a1 (.int .u64 6148914691236517205) fun w4 =>
bnd (wi (i + 1)) fun n3 =>
C0 n3 w4) (
J0 w3)) (a.n : Int) w2) fun  w5 =>
R (s.v) w5
def Dc.zigguratkeep_Lend : Dc := { N := 32, va := [], vb := [], ann := [(2, 0, []), (3, 5, [(5, .one (.int .i64))])], ext := Xt }
theorem Eq.zigguratkeep_Lend (a : Sl) (R : Value → TW → Prop) (w : TW) : denF Pg Dc.zigguratkeep_Lend Go.Proofs.Try.f17 (Go.Proofs.Try.f17.body.getD .skip) [a.v] w R = Sh.zigguratkeep_Lend a R w := by kernel_rfl
theorem Ct.zigguratkeep_Lend {a : Sl} {w : TW} {X : Nat → Prop} {K : Tel (fl [.one .slice]) (TW → Prop)} (h : Sh.zigguratkeep_Lend a (Rt X [.one .slice] K w) w.here) : Ct Pg F.zigguratkeep_Lend [a.v] w X [.one .slice] K :=
  ct_of_den (D := Dc.zigguratkeep_Lend) (fn := Go.Proofs.Try.f17) Xt_ok follows_ok (by kernel_rfl) (by kernel_rfl) (by kernel_rfl) (Eq.mpr (Eq.zigguratkeep_Lend a _ _) h)

def Sh.zigguratkeep_Spoil (a : Sl) (R : Value → TW → Prop) (w : TW) : Prop :=
slc a 0 (a.c : Int) 1 fun s =>
Jn [] (fun J0 =>
Lp [.int .i64] (fun (i : Int) w1 C0 =>
cond (decide ((i : Int) < (s.n : Int))) (
ixa s i 1 fun a1 =>
stc w1 a1 (.int .u64 8608480567731124087) fun w2 =>
bnd (wi (i + 1)) fun n =>
C0 n w2) (
J0 w1)) 0 w) fun  w3 =>
R (.tuple #[]) w3
def Dc.zigguratkeep_Spoil : Dc := { N := 17, va := [], vb := [], ann := [(2, 0, []), (3, 2, [(3, .one (.int .i64))])], ext := Xt }
theorem Eq.zigguratkeep_Spoil (a : Sl) (R : Value → TW → Prop) (w : TW) : denF Pg Dc.zigguratkeep_Spoil Go.Proofs.Try.f23 (Go.Proofs.Try.f23.body.getD .skip) [a.v] w R = Sh.zigguratkeep_Spoil a R w := by kernel_rfl
theorem Ct.zigguratkeep_Spoil {a : Sl} {w : TW} {X : Nat → Prop} {K : Tel (fl []) (TW → Prop)} (h : Sh.zigguratkeep_Spoil a (Rt X [] K w) w.here) : Ct Pg F.zigguratkeep_Spoil [a.v] w X [] K :=
  ct_of_den (D := Dc.zigguratkeep_Spoil) (fn := Go.Proofs.Try.f23) Xt_ok follows_ok (by kernel_rfl) (by kernel_rfl) (by kernel_rfl) (Eq.mpr (Eq.zigguratkeep_Spoil a _ _) h)

def Sh.zigguratkeep_Intact (out : Sl) (a : Sl) (R : Value → TW → Prop) (w : TW) : Prop :=
Jn [.bool] (fun J0 =>
cond (((out.n : Int) : Int) != (a.n : Int)) (
J0 true w) (
bnd (wi ((a.n : Int) + 4)) fun n =>
J0 (((out.c : Int) : Int) != n) w)) fun (x : Bool) w1 =>
cond x (
R (.bool false) w1) (
bnd (wi ((a.n : Int) + 4)) fun n1 =>
slc out 0 n1 1 fun s =>
Jn [] (fun J1 =>
Lp [.int .i64] (fun (i : Int) w2 C0 =>
cond (decide ((i : Int) < (s.n : Int))) (
Jn [.bool] (fun J2 =>
cond (decide ((i : Int) < (a.n : Int))) (
ixa s i 1 fun a1 =>
ldc (.int .u64) w2.drew a1 fun (v : Int) =>
ixa a i 1 fun a2 =>
ldc (.int .u64) w2.drew a2 fun (v1 : Int) =>
cond ((v : Int) != v1) (
J2 true w2.drew) (
cond (decide ((i : Int) ≥ (a.n : Int))) (
ixa s i 1 fun a3 =>
ldc (.int .u64) w2.drew a3 fun (v2 : Int) =>
J2 ((v2 : Int) != 6148914691236517205) w2.drew) (
J2 false w2.drew))) (
cond (decide ((i : Int) ≥ (a.n : Int))) (
ixa s i 1 fun a4 =>
ldc (.int .u64) w2.drew a4 fun (v3 : Int) =>
J2 ((v3 : Int) != 6148914691236517205) w2.drew) (
J2 false w2.drew))) fun (x1 : Bool) w3 =>
cond x1 (
R (.bool false) w3) (
bnd (wi (i + 1)) fun n2 =>
C0 n2 w3)) (
J1 w2)) 0 w1) fun  w4 =>
R (.bool true) w4)
def Dc.zigguratkeep_Intact : Dc := { N := 59, va := [], vb := [], ann := [(0, 1, [(19, .one .bool)]), (2, 0, []), (3, 5, [(6, .one (.int .i64))]), (0, 7, [(58, .one .bool)])], ext := Xt }
theorem Eq.zigguratkeep_Intact (out : Sl) (a : Sl) (R : Value → TW → Prop) (w : TW) : denF Pg Dc.zigguratkeep_Intact Go.Proofs.Try.f24 (Go.Proofs.Try.f24.body.getD .skip) [out.v, a.v] w R = Sh.zigguratkeep_Intact out a R w := by kernel_rfl
theorem Ct.zigguratkeep_Intact {out : Sl} {a : Sl} {w : TW} {X : Nat → Prop} {K : Tel (fl [.one .bool]) (TW → Prop)} (h : Sh.zigguratkeep_Intact out a (Rt X [.one .bool] K w) w.here) : Ct Pg F.zigguratkeep_Intact [out.v, a.v] w X [.one .bool] K :=
  ct_of_den (D := Dc.zigguratkeep_Intact) (fn := Go.Proofs.Try.f24) Xt_ok follows_ok (by kernel_rfl) (by kernel_rfl) (by kernel_rfl) (Eq.mpr (Eq.zigguratkeep_Intact out a _ _) h)

def Sh.zigguratkeep_Cuts (l : Sl) (k : Int) (n : Int) (R : Value → TW → Prop) (w : TW) : Prop :=
Jn [.slice] (fun J0 =>
Lp [.slice, .int .i64] (fun (out : Sl) (i : Int) w1 C0 =>
Jn [.bool] (fun J1 =>
cond (decide ((i : Int) < (l.n : Int))) (
J1 (decide ((i : Int) < k)) w1) (
J1 false w1)) fun (x : Bool) w2 =>
cond x (
ixa l i 1 fun a =>
ldc (.slice) w2 a fun (v : Sl) =>
cl Pg F.zigguratkeep_Cut [v.v, .int .i64 n] w2 [.one .slice] fun (s : Sl) w3 =>
nwb w3 [s.v] T.s_uint64 fun b w4 =>
apd w4 T.s_uint64 1 24 out ⟨(some ⟨b, 0, none⟩), 1, 1⟩ fun s1 w5 =>
bnd (wi (i + 1)) fun n1 =>
C0 s1 n1 w5) (
J0 out w2)) Sl.nil 0 w) fun (out1 : Sl) w6 =>
R (out1.v) w6
def Dc.zigguratkeep_Cuts : Dc := { N := 30, va := [], vb := [], ann := [(2, 0, [(7, .one .slice)]), (3, 3, [(7, .one .slice), (8, .one (.int .i64))]), (0, 3, [(17, .one .bool)])], ext := Xt }
theorem Eq.zigguratkeep_Cuts (l : Sl) (k : Int) (n : Int) (R : Value → TW → Prop) (w : TW) : denF Pg Dc.zigguratkeep_Cuts Go.Proofs.Try.f26 (Go.Proofs.Try.f26.body.getD .skip) [l.v, .int .i64 k, .int .i64 n] w R = Sh.zigguratkeep_Cuts l k n R w := by kernel_rfl
theorem Ct.zigguratkeep_Cuts {l : Sl} {k : Int} {n : Int} {w : TW} {X : Nat → Prop} {K : Tel (fl [.one .slice]) (TW → Prop)} (h : Sh.zigguratkeep_Cuts l k n (Rt X [.one .slice] K w) w.here) : Ct Pg F.zigguratkeep_Cuts [l.v, .int .i64 k, .int .i64 n] w X [.one .slice] K :=
  ct_of_den (D := Dc.zigguratkeep_Cuts) (fn := Go.Proofs.Try.f26) Xt_ok follows_ok (by kernel_rfl) (by kernel_rfl) (by kernel_rfl) (Eq.mpr (Eq.zigguratkeep_Cuts l k n _ _) h)

def Sh.zigguratkeep_Within (v : Int) (n : Int) (R : Value → TW → Prop) (w : TW) : Prop :=
cond (decide ((n : Int) < 1)) (
R (.int .i64 0) w) (
remK v n fun n1 =>
Jn [.int .i64] (fun J0 =>
cond (decide ((n1 : Int) < 0)) (
bnd (wi (n1 + n)) fun n2 =>
J0 n2 w) (
J0 n1 w)) fun (k : Int) w1 =>
R (.int .i64 k) w1)
def Dc.zigguratkeep_Within : Dc := { N := 17, va := [], vb := [], ann := [(1, 5, [(5, .one (.int .i64))])], ext := Xt }
theorem Eq.zigguratkeep_Within (v : Int) (n : Int) (R : Value → TW → Prop) (w : TW) : denF Pg Dc.zigguratkeep_Within Go.Proofs.Try.f27 (Go.Proofs.Try.f27.body.getD .skip) [.int .i64 v, .int .i64 n] w R = Sh.zigguratkeep_Within v n R w := by kernel_rfl
theorem Ct.zigguratkeep_Within {v : Int} {n : Int} {w : TW} {X : Nat → Prop} {K : Tel (fl [.one (.int .i64)]) (TW → Prop)} (h : Sh.zigguratkeep_Within v n (Rt X [.one (.int .i64)] K w) w.here) : Ct Pg F.zigguratkeep_Within [.int .i64 v, .int .i64 n] w X [.one (.int .i64)] K :=
  ct_of_den (D := Dc.zigguratkeep_Within) (fn := Go.Proofs.Try.f27) Xt_ok follows_ok (by kernel_rfl) (by kernel_rfl) (by kernel_rfl) (Eq.mpr (Eq.zigguratkeep_Within v n _ _) h)

def Sh.zigguratkeep_Nats (l : Sl) (R : Value → TW → Prop) (w : TW) : Prop :=
Jn [.slice] (fun J0 =>
Lp [.slice, .int .i64] (fun (out : Sl) (i : Int) w1 C0 =>
cond (decide ((i : Int) < (l.n : Int))) (
ixa l i 1 fun a =>
ldc (.slice) w1 a fun (v : Sl) =>
nwb w1 [v.v] T.api_Nat fun b w2 =>
apd w2 T.api_Nat 1 24 out ⟨(some ⟨b, 0, none⟩), 1, 1⟩ fun s w3 =>
bnd (wi (i + 1)) fun n =>
C0 s n w3) (
J0 out w1)) Sl.nil 0 w) fun (out1 : Sl) w4 =>
R (out1.v) w4
def Dc.zigguratkeep_Nats : Dc := { N := 19, va := [], vb := [], ann := [(2, 0, [(3, .one .slice)]), (3, 3, [(3, .one .slice), (4, .one (.int .i64))])], ext := Xt }
theorem Eq.zigguratkeep_Nats (l : Sl) (R : Value → TW → Prop) (w : TW) : denF Pg Dc.zigguratkeep_Nats Go.Proofs.Try.f33 (Go.Proofs.Try.f33.body.getD .skip) [l.v] w R = Sh.zigguratkeep_Nats l R w := by kernel_rfl
theorem Ct.zigguratkeep_Nats {l : Sl} {w : TW} {X : Nat → Prop} {K : Tel (fl [.one .slice]) (TW → Prop)} (h : Sh.zigguratkeep_Nats l (Rt X [.one .slice] K w) w.here) : Ct Pg F.zigguratkeep_Nats [l.v] w X [.one .slice] K :=
  ct_of_den (D := Dc.zigguratkeep_Nats) (fn := Go.Proofs.Try.f33) Xt_ok follows_ok (by kernel_rfl) (by kernel_rfl) (by kernel_rfl) (Eq.mpr (Eq.zigguratkeep_Nats l _ _) h)

def Sh.zigguratkeep_Same (a : Sl) (b : Sl) (R : Value → TW → Prop) (w : TW) : Prop :=
cond (((a.n : Int) : Int) != (b.n : Int)) (
R (.bool false) w) (
Jn [] (fun J0 =>
Lp [.int .i64] (fun (i : Int) w1 C0 =>
cond (decide ((i : Int) < (a.n : Int))) (
ixa a i 1 fun a1 =>
ldc (.int .u64) w1.drew a1 fun (v : Int) =>
ixa b i 1 fun a2 =>
ldc (.int .u64) w1.drew a2 fun (v1 : Int) =>
cond ((v : Int) != v1) (
R (.bool false) w1.drew) (
bnd (wi (i + 1)) fun n =>
C0 n w1.drew)) (
J0 w1)) 0 w) fun  w2 =>
R (.bool true) w2)
def Dc.zigguratkeep_Same : Dc := { N := 26, va := [], vb := [], ann := [(2, 0, []), (3, 4, [(5, .one (.int .i64))])], ext := Xt }
theorem Eq.zigguratkeep_Same (a : Sl) (b : Sl) (R : Value → TW → Prop) (w : TW) : denF Pg Dc.zigguratkeep_Same Go.Proofs.Try.f46 (Go.Proofs.Try.f46.body.getD .skip) [a.v, b.v] w R = Sh.zigguratkeep_Same a b R w := by kernel_rfl
theorem Ct.zigguratkeep_Same {a : Sl} {b : Sl} {w : TW} {X : Nat → Prop} {K : Tel (fl [.one .bool]) (TW → Prop)} (h : Sh.zigguratkeep_Same a b (Rt X [.one .bool] K w) w.here) : Ct Pg F.zigguratkeep_Same [a.v, b.v] w X [.one .bool] K :=
  ct_of_den (D := Dc.zigguratkeep_Same) (fn := Go.Proofs.Try.f46) Xt_ok follows_ok (by kernel_rfl) (by kernel_rfl) (by kernel_rfl) (Eq.mpr (Eq.zigguratkeep_Same a b _ _) h)
end Go.Proofs.Ythhohfgpaihngaa.Zg
end

section
set_option maxRecDepth 100000
namespace Go.Proofs.Ythhohfgpaihngaa.Zg
def Sh.zigguratlaw02_LimbJoins (k : Int) (l : Sl) (R : Value → TW → Prop) (w : TW) : Prop :=
cl Pg F.zigguratkeep_Cuts [l.v, .int .i64 8, .int .i64 12] w [.one .slice] fun (s : Sl) w1 =>
Jn [.int .i64] (fun J0 =>
cond (decide ((k : Int) > 40)) (
cl Pg F.zigguratkeep_Within [.int .i64 k, .int .i64 40] w1 [.one (.int .i64)] fun (r : Int) w2 =>
J0 r w2) (
J0 k w1)) fun (k1 : Int) w3 =>
bnd (wi ((s.n : Int) - 1)) fun n =>
Jn [.slice] (fun J1 =>
Lp [.slice, .int .i64] (fun (sum : Sl) (i : Int) w4 C0 =>
cond (decide ((i : Int) ≥ 0)) (
ixa s i 1 fun a =>
ldc (.slice) w4.drew a fun (v : Sl) =>
cl Pg F.zigguratlaw02_count [.int .i64 k1, .int .i64 40] w4.drew [.one (.int .i64)] fun (r1 : Int) w5 =>
hld w5 [(a, v.v)] <|
bnd (wi (64 * r1)) fun n1 =>
cl Pg F.zigguratref02_Shl [sum.v, .int .i64 n1] w5 [.one .slice] fun (s1 : Sl) w6 =>
hld w6 [(a, v.v)] <|
cl Pg F.zigguratlaw02_from [v.v] w6 [.one .slice] fun (s2 : Sl) w7 =>
cl Pg F.zigguratref02_Add [s1.v, s2.v] w7 [.one .slice] fun (s3 : Sl) w8 =>
bnd (wi (i - 1)) fun n2 =>
C0 s3 n2 w8) (
J1 sum w4)) Sl.nil n w3) fun (sum1 : Sl) w9 =>
Jn [.bool] (fun J2 =>
cl Pg F.zigguratkeep_Nats [s.v] w9 [.one .slice] fun (s4 : Sl) w10 =>
cl Pg F.limb_Join [.int .i64 k1, s4.v] w10 [.one .slice] fun (s5 : Sl) w11 =>
cl Pg F.zigguratref02_Same [sum1.v, s5.v] w11 [.one .bool] fun (ok : Bool) w12 =>
cond ok (
cl Pg F.zigguratlaw02_wakes [] w12 [.one .bool] fun (ok1 : Bool) w13 =>
J2 ok1 w13) (
J2 false w12)) fun (x : Bool) w14 =>
R (.bool x) w14
def Dc.zigguratlaw02_LimbJoins : Dc := { N := 40, va := [], vb := [], ann := [(1, 3, [(0, .one (.int .i64))]), (2, 0, [(5, .one .slice)]), (3, 6, [(5, .one .slice), (6, .one (.int .i64))]), (0, 9, [(4, .one .bool)])], ext := Xt }
theorem Eq.zigguratlaw02_LimbJoins (k : Int) (l : Sl) (R : Value → TW → Prop) (w : TW) : denF Pg Dc.zigguratlaw02_LimbJoins Go.Proofs.Try.f4 (Go.Proofs.Try.f4.body.getD .skip) [.int .i64 k, l.v] w R = Sh.zigguratlaw02_LimbJoins k l R w := by kernel_rfl
theorem Ct.zigguratlaw02_LimbJoins {k : Int} {l : Sl} {w : TW} {X : Nat → Prop} {K : Tel (fl [.one .bool]) (TW → Prop)} (h : Sh.zigguratlaw02_LimbJoins k l (Rt X [.one .bool] K w) w.here) : Ct Pg F.zigguratlaw02_LimbJoins [.int .i64 k, l.v] w X [.one .bool] K :=
  ct_of_den (D := Dc.zigguratlaw02_LimbJoins) (fn := Go.Proofs.Try.f4) Xt_ok follows_ok (by kernel_rfl) (by kernel_rfl) (by kernel_rfl) (Eq.mpr (Eq.zigguratlaw02_LimbJoins k l _ _) h)

def Sh.zigguratlaw02_LimbSums (l : Sl) (y : Int) (R : Value → TW → Prop) (w : TW) : Prop :=
cl Pg F.zigguratkeep_Cuts [l.v, .int .i64 12, .int .i64 20] w [.one .slice] fun (s : Sl) w1 =>
Jn [.bool] (fun J0 =>
cl Pg F.zigguratkeep_Nats [s.v] w1 [.one .slice] fun (s1 : Sl) w2 =>
cl Pg F.zigguratref02_Sum [s1.v] w2 [.one .slice] fun (s2 : Sl) w3 =>
cl Pg F.zigguratkeep_Nats [s.v] w3 [.one .slice] fun (s3 : Sl) w4 =>
cl Pg F.limb_Sum [s3.v] w4 [.one .slice] fun (s4 : Sl) w5 =>
cl Pg F.zigguratref02_Same [s2.v, s4.v] w5 [.one .bool] fun (ok : Bool) w6 =>
cond ok (
cl Pg F.zigguratref02_Small [.int .u64 y] w6 [.one .slice] fun (s5 : Sl) w7 =>
cl Pg F.limb_One [.int .u64 y] w7 [.one .slice] fun (s6 : Sl) w8 =>
cl Pg F.zigguratref02_Same [s5.v, s6.v] w8 [.one .bool] fun (ok1 : Bool) w9 =>
cond ok1 (
cl Pg F.zigguratlaw02_wakes [] w9 [.one .bool] fun (ok2 : Bool) w10 =>
J0 ok2 w10) (
J0 false w9)) (
J0 false w6)) fun (x : Bool) w11 =>
R (.bool x) w11
def Dc.zigguratlaw02_LimbSums : Dc := { N := 24, va := [], vb := [], ann := [(0, 2, [(4, .one .bool)])], ext := Xt }
theorem Eq.zigguratlaw02_LimbSums (l : Sl) (y : Int) (R : Value → TW → Prop) (w : TW) : denF Pg Dc.zigguratlaw02_LimbSums Go.Proofs.Try.f6 (Go.Proofs.Try.f6.body.getD .skip) [l.v, .int .u64 y] w R = Sh.zigguratlaw02_LimbSums l y R w := by kernel_rfl
theorem Ct.zigguratlaw02_LimbSums {l : Sl} {y : Int} {w : TW} {X : Nat → Prop} {K : Tel (fl [.one .bool]) (TW → Prop)} (h : Sh.zigguratlaw02_LimbSums l y (Rt X [.one .bool] K w) w.here) : Ct Pg F.zigguratlaw02_LimbSums [l.v, .int .u64 y] w X [.one .bool] K :=
  ct_of_den (D := Dc.zigguratlaw02_LimbSums) (fn := Go.Proofs.Try.f6) Xt_ok follows_ok (by kernel_rfl) (by kernel_rfl) (by kernel_rfl) (Eq.mpr (Eq.zigguratlaw02_LimbSums l y _ _) h)

def Sh.zigguratlaw02_LimbSplits (a : Sl) (k : Int) (R : Value → TW → Prop) (w : TW) : Prop :=
cl Pg F.zigguratkeep_Cut [a.v, .int .i64 50] w [.one .slice] fun (s : Sl) w1 =>
cl Pg F.zigguratkeep_Lend [s.v] w1 [.one .slice] fun (s1 : Sl) w2 =>
cl Pg F.limb_Split [s1.v, .int .i64 k] w2 [.one .slice, .one .slice] fun (s2 : Sl) (s3 : Sl) w3 =>
cl Pg F.zigguratlaw02_count [.int .i64 k, .int .i64 16384] w3 [.one (.int .i64)] fun (r : Int) w4 =>
Jn [.bool] (fun J0 =>
cl Pg F.zigguratlaw02_from [s.v] w4 [.one .slice] fun (s4 : Sl) w5 =>
bnd (wi (64 * r)) fun n =>
cl Pg F.zigguratref02_Low [s4.v, .int .i64 n] w5 [.one .slice] fun (s5 : Sl) w6 =>
cl Pg F.zigguratref02_Same [s5.v, s2.v] w6 [.one .bool] fun (ok : Bool) w7 =>
cond (!ok) (
J0 true w7) (
cl Pg F.zigguratlaw02_from [s.v] w7 [.one .slice] fun (s6 : Sl) w8 =>
bnd (wi (64 * r)) fun n1 =>
cl Pg F.zigguratref02_Shr [s6.v, .int .i64 n1] w8 [.one .slice] fun (s7 : Sl) w9 =>
cl Pg F.zigguratref02_Same [s7.v, s3.v] w9 [.one .bool] fun (ok1 : Bool) w10 =>
J0 (!ok1) w10)) fun (x : Bool) w11 =>
cond x (
R (.bool false) w11) (
nwb w11 [s2.v, s3.v] T.api_Nat fun b w12 =>
cl Pg F.limb_Join [.int .i64 k, .slice (some ⟨b, 0, none⟩) 2 2] w12 [.one .slice] fun (s8 : Sl) w13 =>
Jn [.bool] (fun J1 =>
cond (decide ((r : Int) > 0)) (
cl Pg F.limb_Cmp [s8.v, s1.v] w13 [.one (.int .i64)] fun (r1 : Int) w14 =>
J1 ((r1 : Int) != 0) w14) (
J1 false w13)) fun (x1 : Bool) w15 =>
cond x1 (
R (.bool false) w15) (
cl Pg F.zigguratkeep_Spoil [s2.v] w15 [] fun w16 =>
cl Pg F.zigguratkeep_Spoil [s3.v] w16 [] fun w17 =>
Jn [.bool] (fun J2 =>
cl Pg F.zigguratkeep_Intact [s1.v, s.v] w17 [.one .bool] fun (ok2 : Bool) w18 =>
cond ok2 (
cl Pg F.zigguratlaw02_wakes [] w18 [.one .bool] fun (ok3 : Bool) w19 =>
J2 ok3 w19) (
J2 false w18)) fun (x2 : Bool) w20 =>
R (.bool x2) w20))
def Dc.zigguratlaw02_LimbSplits : Dc := { N := 63, va := [], vb := [], ann := [(0, 5, [(39, .one .bool)]), (0, 8, [(52, .one .bool)]), (0, 12, [(4, .one .bool)])], ext := Xt }
theorem Eq.zigguratlaw02_LimbSplits (a : Sl) (k : Int) (R : Value → TW → Prop) (w : TW) : denF Pg Dc.zigguratlaw02_LimbSplits Go.Proofs.Try.f7 (Go.Proofs.Try.f7.body.getD .skip) [a.v, .int .i64 k] w R = Sh.zigguratlaw02_LimbSplits a k R w := by kernel_rfl
theorem Ct.zigguratlaw02_LimbSplits {a : Sl} {k : Int} {w : TW} {X : Nat → Prop} {K : Tel (fl [.one .bool]) (TW → Prop)} (h : Sh.zigguratlaw02_LimbSplits a k (Rt X [.one .bool] K w) w.here) : Ct Pg F.zigguratlaw02_LimbSplits [a.v, .int .i64 k] w X [.one .bool] K :=
  ct_of_den (D := Dc.zigguratlaw02_LimbSplits) (fn := Go.Proofs.Try.f7) Xt_ok follows_ok (by kernel_rfl) (by kernel_rfl) (by kernel_rfl) (Eq.mpr (Eq.zigguratlaw02_LimbSplits a k _ _) h)

def Sh.zigguratlaw02_LimbAdds (a : Sl) (b : Sl) (R : Value → TW → Prop) (w : TW) : Prop :=
cl Pg F.zigguratkeep_Cut [a.v, .int .i64 60] w [.one .slice] fun (s : Sl) w1 =>
cl Pg F.zigguratkeep_Cut [b.v, .int .i64 60] w1 [.one .slice] fun (s1 : Sl) w2 =>
cl Pg F.zigguratkeep_Lend [s.v] w2 [.one .slice] fun (s2 : Sl) w3 =>
cl Pg F.zigguratkeep_Lend [s1.v] w3 [.one .slice] fun (s3 : Sl) w4 =>
cl Pg F.limb_Add [s2.v, s3.v] w4 [.one .slice] fun (s4 : Sl) w5 =>
cl Pg F.limb_Sub [s2.v, s3.v] w5 [.one .slice, .one .bool] fun (s5 : Sl) (ok : Bool) w6 =>
cl Pg F.zigguratlaw02_from [s.v] w6 [.one .slice] fun (s6 : Sl) w7 =>
cl Pg F.zigguratlaw02_from [s1.v] w7 [.one .slice] fun (s7 : Sl) w8 =>
cl Pg F.zigguratref02_Cmp [s6.v, s7.v] w8 [.one (.int .i64)] fun (r : Int) w9 =>
Jn [.bool] (fun J0 =>
cl Pg F.zigguratlaw02_from [s.v] w9 [.one .slice] fun (s8 : Sl) w10 =>
cl Pg F.zigguratlaw02_from [s1.v] w10 [.one .slice] fun (s9 : Sl) w11 =>
cl Pg F.zigguratref02_Add [s8.v, s9.v] w11 [.one .slice] fun (s10 : Sl) w12 =>
cl Pg F.zigguratref02_Same [s10.v, s4.v] w12 [.one .bool] fun (ok1 : Bool) w13 =>
cond (!ok1) (
J0 true w13) (
cl Pg F.limb_Cmp [s2.v, s3.v] w13 [.one (.int .i64)] fun (r1 : Int) w14 =>
cond ((r1 : Int) != r) (
J0 true w14) (
J0 (!(ok == (decide ((r : Int) ≥ 0)))) w14))) fun (x : Bool) w15 =>
cond x (
R (.bool false) w15) (
Jn [.bool] (fun J1 =>
cond ok (
cl Pg F.zigguratlaw02_from [s.v] w15 [.one .slice] fun (s11 : Sl) w16 =>
cl Pg F.zigguratlaw02_from [s1.v] w16 [.one .slice] fun (s12 : Sl) w17 =>
cl Pg F.zigguratref02_Sub [s11.v, s12.v] w17 [.one .slice] fun (s13 : Sl) w18 =>
cl Pg F.zigguratref02_Same [s13.v, s5.v] w18 [.one .bool] fun (ok2 : Bool) w19 =>
cond (!ok2) (
J1 true w19) (
cond (!ok) (
J1 (decide (((s5.n : Int) : Int) > 0)) w19) (
J1 false w19))) (
cond (!ok) (
J1 (decide (((s5.n : Int) : Int) > 0)) w15) (
J1 false w15))) fun (x1 : Bool) w20 =>
cond x1 (
R (.bool false) w20) (
cl Pg F.limb_Norm [s2.v] w20 [.one .slice] fun (s14 : Sl) w21 =>
cl Pg F.zigguratkeep_Spoil [s4.v] w21 [] fun w22 =>
cl Pg F.zigguratkeep_Spoil [s5.v] w22 [] fun w23 =>
cl Pg F.zigguratlaw02_from [s.v] w23 [.one .slice] fun (s15 : Sl) w24 =>
cl Pg F.zigguratref02_Same [s15.v, s14.v] w24 [.one .bool] fun (ok3 : Bool) w25 =>
cond (!ok3) (
R (.bool false) w25) (
cl Pg F.zigguratkeep_Spoil [s14.v] w25 [] fun w26 =>
Jn [.bool] (fun J2 =>
cl Pg F.zigguratkeep_Intact [s2.v, s.v] w26 [.one .bool] fun (ok4 : Bool) w27 =>
cond ok4 (
cl Pg F.zigguratkeep_Intact [s3.v, s1.v] w27 [.one .bool] fun (ok5 : Bool) w28 =>
cond ok5 (
cl Pg F.zigguratlaw02_wakes [] w28 [.one .bool] fun (ok6 : Bool) w29 =>
J2 ok6 w29) (
J2 false w28)) (
J2 false w27)) fun (x2 : Bool) w30 =>
R (.bool x2) w30)))
def Dc.zigguratlaw02_LimbAdds : Dc := { N := 99, va := [], vb := [], ann := [(0, 6, [(54, .one .bool)]), (0, 8, [(74, .one .bool)]), (0, 16, [(4, .one .bool)])], ext := Xt }
theorem Eq.zigguratlaw02_LimbAdds (a : Sl) (b : Sl) (R : Value → TW → Prop) (w : TW) : denF Pg Dc.zigguratlaw02_LimbAdds Go.Proofs.Try.f10 (Go.Proofs.Try.f10.body.getD .skip) [a.v, b.v] w R = Sh.zigguratlaw02_LimbAdds a b R w := by kernel_rfl
theorem Ct.zigguratlaw02_LimbAdds {a : Sl} {b : Sl} {w : TW} {X : Nat → Prop} {K : Tel (fl [.one .bool]) (TW → Prop)} (h : Sh.zigguratlaw02_LimbAdds a b (Rt X [.one .bool] K w) w.here) : Ct Pg F.zigguratlaw02_LimbAdds [a.v, b.v] w X [.one .bool] K :=
  ct_of_den (D := Dc.zigguratlaw02_LimbAdds) (fn := Go.Proofs.Try.f10) Xt_ok follows_ok (by kernel_rfl) (by kernel_rfl) (by kernel_rfl) (Eq.mpr (Eq.zigguratlaw02_LimbAdds a b _ _) h)

def Sh.zigguratlaw02_LimbWords (a : Sl) (b : Sl) (y : Int) (R : Value → TW → Prop) (w : TW) : Prop :=
cl Pg F.zigguratkeep_Cut [a.v, .int .i64 50] w [.one .slice] fun (s : Sl) w1 =>
cl Pg F.zigguratkeep_Cut [b.v, .int .i64 50] w1 [.one .slice] fun (s1 : Sl) w2 =>
cl Pg F.zigguratkeep_Lend [s.v] w2 [.one .slice] fun (s2 : Sl) w3 =>
cl Pg F.zigguratkeep_Lend [s1.v] w3 [.one .slice] fun (s3 : Sl) w4 =>
cl Pg F.zigguratlaw02_from [s1.v] w4 [.one .slice] fun (s4 : Sl) w5 =>
cl Pg F.zigguratref02_Small [.int .u64 y] w5 [.one .slice] fun (s5 : Sl) w6 =>
cl Pg F.zigguratref02_Mul [s4.v, s5.v] w6 [.one .slice] fun (s6 : Sl) w7 =>
Jn [.bool] (fun J0 =>
cl Pg F.limb_MulWord [s3.v, .int .u64 y] w7 [.one .slice] fun (s7 : Sl) w8 =>
cl Pg F.zigguratref02_Same [s6.v, s7.v] w8 [.one .bool] fun (ok : Bool) w9 =>
cond (!ok) (
J0 true w9) (
cl Pg F.zigguratlaw02_from [s.v] w9 [.one .slice] fun (s8 : Sl) w10 =>
cl Pg F.zigguratref02_Add [s8.v, s6.v] w10 [.one .slice] fun (s9 : Sl) w11 =>
cl Pg F.limb_AddMul [s2.v, s3.v, .int .u64 y] w11 [.one .slice] fun (s10 : Sl) w12 =>
cl Pg F.zigguratref02_Same [s9.v, s10.v] w12 [.one .bool] fun (ok1 : Bool) w13 =>
J0 (!ok1) w13)) fun (x : Bool) w14 =>
cond x (
R (.bool false) w14) (
cl Pg F.limb_SubMul [s2.v, s3.v, .int .u64 y] w14 [.one .slice, .one .bool] fun (s11 : Sl) (ok2 : Bool) w15 =>
cl Pg F.zigguratlaw02_from [s.v] w15 [.one .slice] fun (s12 : Sl) w16 =>
cl Pg F.zigguratref02_Cmp [s12.v, s6.v] w16 [.one (.int .i64)] fun (r : Int) w17 =>
cond (!(ok2 == (decide ((r : Int) ≥ 0)))) (
R (.bool false) w17) (
Jn [.bool] (fun J1 =>
cond ok2 (
cl Pg F.zigguratlaw02_from [s.v] w17 [.one .slice] fun (s13 : Sl) w18 =>
cl Pg F.zigguratref02_Sub [s13.v, s6.v] w18 [.one .slice] fun (s14 : Sl) w19 =>
cl Pg F.zigguratref02_Same [s14.v, s11.v] w19 [.one .bool] fun (ok3 : Bool) w20 =>
cond (!ok3) (
J1 true w20) (
cond (!ok2) (
J1 (decide (((s11.n : Int) : Int) > 0)) w20) (
J1 false w20))) (
cond (!ok2) (
J1 (decide (((s11.n : Int) : Int) > 0)) w17) (
J1 false w17))) fun (x1 : Bool) w21 =>
cond x1 (
R (.bool false) w21) (
Jn [.bool] (fun J2 =>
cl Pg F.zigguratkeep_Intact [s2.v, s.v] w21 [.one .bool] fun (ok4 : Bool) w22 =>
cond ok4 (
cl Pg F.zigguratkeep_Intact [s3.v, s1.v] w22 [.one .bool] fun (ok5 : Bool) w23 =>
cond ok5 (
cl Pg F.zigguratlaw02_wakes [] w23 [.one .bool] fun (ok6 : Bool) w24 =>
J2 ok6 w24) (
J2 false w23)) (
J2 false w22)) fun (x2 : Bool) w25 =>
R (.bool x2) w25)))
def Dc.zigguratlaw02_LimbWords : Dc := { N := 87, va := [], vb := [], ann := [(0, 4, [(42, .one .bool)]), (0, 9, [(75, .one .bool)]), (0, 11, [(6, .one .bool)])], ext := Xt }
theorem Eq.zigguratlaw02_LimbWords (a : Sl) (b : Sl) (y : Int) (R : Value → TW → Prop) (w : TW) : denF Pg Dc.zigguratlaw02_LimbWords Go.Proofs.Try.f11 (Go.Proofs.Try.f11.body.getD .skip) [a.v, b.v, .int .u64 y] w R = Sh.zigguratlaw02_LimbWords a b y R w := by kernel_rfl
theorem Ct.zigguratlaw02_LimbWords {a : Sl} {b : Sl} {y : Int} {w : TW} {X : Nat → Prop} {K : Tel (fl [.one .bool]) (TW → Prop)} (h : Sh.zigguratlaw02_LimbWords a b y (Rt X [.one .bool] K w) w.here) : Ct Pg F.zigguratlaw02_LimbWords [a.v, b.v, .int .u64 y] w X [.one .bool] K :=
  ct_of_den (D := Dc.zigguratlaw02_LimbWords) (fn := Go.Proofs.Try.f11) Xt_ok follows_ok (by kernel_rfl) (by kernel_rfl) (by kernel_rfl) (Eq.mpr (Eq.zigguratlaw02_LimbWords a b y _ _) h)

def Sh.zigguratlaw02_LimbShifts (a : Sl) (n : Int) (R : Value → TW → Prop) (w : TW) : Prop :=
cl Pg F.zigguratkeep_Cut [a.v, .int .i64 40] w [.one .slice] fun (s : Sl) w1 =>
cl Pg F.zigguratkeep_Lend [s.v] w1 [.one .slice] fun (s1 : Sl) w2 =>
Jn [.int .i64] (fun J0 =>
cond (decide ((n : Int) > 6000)) (
cl Pg F.zigguratkeep_Within [.int .i64 n, .int .i64 100] w2 [.one (.int .i64)] fun (r : Int) w3 =>
bnd (wi (6000 + r)) fun n1 =>
J0 n1 w3) (
J0 n w2)) fun (n2 : Int) w4 =>
cl Pg F.zigguratlaw02_count [.int .i64 n2, .int .i64 1048576] w4 [.one (.int .i64)] fun (r1 : Int) w5 =>
cl Pg F.limb_Shl [s1.v, .int .i64 n2] w5 [.one .slice] fun (s2 : Sl) w6 =>
cl Pg F.limb_Shr [s1.v, .int .i64 n2] w6 [.one .slice] fun (s3 : Sl) w7 =>
cl Pg F.limb_Low [s1.v, .int .i64 n2] w7 [.one .slice] fun (s4 : Sl) w8 =>
Jn [.bool] (fun J1 =>
cl Pg F.zigguratlaw02_from [s.v] w8 [.one .slice] fun (s5 : Sl) w9 =>
cl Pg F.zigguratref02_Shl [s5.v, .int .i64 r1] w9 [.one .slice] fun (s6 : Sl) w10 =>
cl Pg F.zigguratref02_Same [s6.v, s2.v] w10 [.one .bool] fun (ok : Bool) w11 =>
cond (!ok) (
J1 true w11) (
cl Pg F.zigguratlaw02_from [s.v] w11 [.one .slice] fun (s7 : Sl) w12 =>
cl Pg F.zigguratref02_Shr [s7.v, .int .i64 r1] w12 [.one .slice] fun (s8 : Sl) w13 =>
cl Pg F.zigguratref02_Same [s8.v, s3.v] w13 [.one .bool] fun (ok1 : Bool) w14 =>
cond (!ok1) (
J1 true w14) (
cl Pg F.zigguratlaw02_from [s.v] w14 [.one .slice] fun (s9 : Sl) w15 =>
cl Pg F.zigguratref02_Low [s9.v, .int .i64 r1] w15 [.one .slice] fun (s10 : Sl) w16 =>
cl Pg F.zigguratref02_Same [s10.v, s4.v] w16 [.one .bool] fun (ok2 : Bool) w17 =>
J1 (!ok2) w17))) fun (x : Bool) w18 =>
cond x (
R (.bool false) w18) (
cl Pg F.zigguratkeep_Spoil [s2.v] w18 [] fun w19 =>
cl Pg F.zigguratkeep_Spoil [s3.v] w19 [] fun w20 =>
cl Pg F.zigguratkeep_Spoil [s4.v] w20 [] fun w21 =>
Jn [.bool] (fun J2 =>
cl Pg F.zigguratkeep_Intact [s1.v, s.v] w21 [.one .bool] fun (ok3 : Bool) w22 =>
cond ok3 (
cl Pg F.zigguratlaw02_wakes [] w22 [.one .bool] fun (ok4 : Bool) w23 =>
J2 ok4 w23) (
J2 false w22)) fun (x1 : Bool) w24 =>
R (.bool x1) w24)
def Dc.zigguratlaw02_LimbShifts : Dc := { N := 67, va := [], vb := [], ann := [(1, 4, [(1, .one (.int .i64))]), (0, 7, [(54, .one .bool)]), (0, 12, [(4, .one .bool)])], ext := Xt }
theorem Eq.zigguratlaw02_LimbShifts (a : Sl) (n : Int) (R : Value → TW → Prop) (w : TW) : denF Pg Dc.zigguratlaw02_LimbShifts Go.Proofs.Try.f12 (Go.Proofs.Try.f12.body.getD .skip) [a.v, .int .i64 n] w R = Sh.zigguratlaw02_LimbShifts a n R w := by kernel_rfl
theorem Ct.zigguratlaw02_LimbShifts {a : Sl} {n : Int} {w : TW} {X : Nat → Prop} {K : Tel (fl [.one .bool]) (TW → Prop)} (h : Sh.zigguratlaw02_LimbShifts a n (Rt X [.one .bool] K w) w.here) : Ct Pg F.zigguratlaw02_LimbShifts [a.v, .int .i64 n] w X [.one .bool] K :=
  ct_of_den (D := Dc.zigguratlaw02_LimbShifts) (fn := Go.Proofs.Try.f12) Xt_ok follows_ok (by kernel_rfl) (by kernel_rfl) (by kernel_rfl) (Eq.mpr (Eq.zigguratlaw02_LimbShifts a n _ _) h)

def Sh.zigguratlaw02_LimbDivs (a : Sl) (y : Int) (R : Value → TW → Prop) (w : TW) : Prop :=
cl Pg F.zigguratkeep_Cut [a.v, .int .i64 40] w [.one .slice] fun (s : Sl) w1 =>
cl Pg F.zigguratkeep_Lend [s.v] w1 [.one .slice] fun (s1 : Sl) w2 =>
cl Pg F.limb_DivWord [s1.v, .int .u64 y] w2 [.one .slice, .one (.int .u64), .one (.int .i64)] fun (s2 : Sl) (r : Int) (r1 : Int) w3 =>
cond ((y : Int) == 0) (
Jn [.bool] (fun J0 =>
cond ((r1 : Int) == 2) (
cond (((s2.n : Int) : Int) == 0) (
cond ((r : Int) == 0) (
cl Pg F.zigguratlaw02_wakes [] w3 [.one .bool] fun (ok : Bool) w4 =>
J0 ok w4) (
J0 false w3)) (
J0 false w3)) (
J0 false w3)) fun (x : Bool) w5 =>
R (.bool x) w5) (
cl Pg F.zigguratlaw02_from [s.v] w3 [.one .slice] fun (s3 : Sl) w6 =>
cl Pg F.zigguratref02_Small [.int .u64 y] w6 [.one .slice] fun (s4 : Sl) w7 =>
cl Pg F.zigguratref02_DivMod [s3.v, s4.v] w7 [.one .slice, .one .slice] fun (s5 : Sl) (s6 : Sl) w8 =>
Jn [.bool] (fun J1 =>
cond ((r1 : Int) == 0) (
cl Pg F.zigguratref02_Same [s5.v, s2.v] w8 [.one .bool] fun (ok1 : Bool) w9 =>
cond ok1 (
cl Pg F.zigguratref02_Small [.int .u64 r] w9 [.one .slice] fun (s7 : Sl) w10 =>
cl Pg F.zigguratref02_Cmp [s6.v, s7.v] w10 [.one (.int .i64)] fun (r2 : Int) w11 =>
cond ((r2 : Int) == 0) (
cl Pg F.zigguratkeep_Intact [s1.v, s.v] w11 [.one .bool] fun (ok2 : Bool) w12 =>
cond ok2 (
cl Pg F.zigguratlaw02_wakes [] w12 [.one .bool] fun (ok3 : Bool) w13 =>
J1 ok3 w13) (
J1 false w12)) (
J1 false w11)) (
J1 false w9)) (
J1 false w8)) fun (x1 : Bool) w14 =>
R (.bool x1) w14)
def Dc.zigguratlaw02_LimbDivs : Dc := { N := 68, va := [], vb := [], ann := [(0, 5, [(4, .one .bool)]), (0, 7, [(4, .one .bool)])], ext := Xt }
theorem Eq.zigguratlaw02_LimbDivs (a : Sl) (y : Int) (R : Value → TW → Prop) (w : TW) : denF Pg Dc.zigguratlaw02_LimbDivs Go.Proofs.Try.f13 (Go.Proofs.Try.f13.body.getD .skip) [a.v, .int .u64 y] w R = Sh.zigguratlaw02_LimbDivs a y R w := by kernel_rfl
theorem Ct.zigguratlaw02_LimbDivs {a : Sl} {y : Int} {w : TW} {X : Nat → Prop} {K : Tel (fl [.one .bool]) (TW → Prop)} (h : Sh.zigguratlaw02_LimbDivs a y (Rt X [.one .bool] K w) w.here) : Ct Pg F.zigguratlaw02_LimbDivs [a.v, .int .u64 y] w X [.one .bool] K :=
  ct_of_den (D := Dc.zigguratlaw02_LimbDivs) (fn := Go.Proofs.Try.f13) Xt_ok follows_ok (by kernel_rfl) (by kernel_rfl) (by kernel_rfl) (Eq.mpr (Eq.zigguratlaw02_LimbDivs a y _ _) h)

def Sh.zigguratlaw02_LimbLaws (a : Sl) (b : Sl) (y : Int) (n : Int) (R : Value → TW → Prop) (w : TW) : Prop :=
cl Pg F.zigguratkeep_Cut [a.v, .int .i64 40] w [.one .slice] fun (s : Sl) w1 =>
cl Pg F.zigguratkeep_Cut [b.v, .int .i64 40] w1 [.one .slice] fun (s1 : Sl) w2 =>
cl Pg F.limb_Add [s.v, s1.v] w2 [.one .slice] fun (s2 : Sl) w3 =>
cl Pg F.limb_Sub [s2.v, s1.v] w3 [.one .slice, .one .bool] fun (s3 : Sl) (ok : Bool) w4 =>
Jn [.bool] (fun J0 =>
cond (!ok) (
J0 true w4) (
cl Pg F.limb_Cmp [s3.v, s.v] w4 [.one (.int .i64)] fun (r : Int) w5 =>
cond ((r : Int) != 0) (
J0 true w5) (
cl Pg F.limb_Add [s1.v, s.v] w5 [.one .slice] fun (s4 : Sl) w6 =>
cl Pg F.limb_Cmp [s2.v, s4.v] w6 [.one (.int .i64)] fun (r1 : Int) w7 =>
cond ((r1 : Int) != 0) (
J0 true w7) (
nwb w7 [s.v, s1.v, s.v] T.api_Nat fun b1 w8 =>
cl Pg F.limb_Sum [.slice (some ⟨b1, 0, none⟩) 3 3] w8 [.one .slice] fun (s5 : Sl) w9 =>
cl Pg F.limb_Add [s2.v, s.v] w9 [.one .slice] fun (s6 : Sl) w10 =>
cl Pg F.limb_Cmp [s5.v, s6.v] w10 [.one (.int .i64)] fun (r2 : Int) w11 =>
J0 ((r2 : Int) != 0) w11)))) fun (x : Bool) w12 =>
cond x (
R (.bool false) w12) (
cl Pg F.limb_AddMul [s.v, s1.v, .int .u64 y] w12 [.one .slice] fun (s7 : Sl) w13 =>
cl Pg F.limb_SubMul [s7.v, s1.v, .int .u64 y] w13 [.one .slice, .one .bool] fun (s8 : Sl) (ok1 : Bool) w14 =>
cl Pg F.zigguratkeep_Within [.int .i64 n, .int .i64 500] w14 [.one (.int .i64)] fun (r3 : Int) w15 =>
Jn [.bool] (fun J1 =>
cond ok1 (
cl Pg F.limb_Cmp [s8.v, s.v] w15 [.one (.int .i64)] fun (r4 : Int) w16 =>
cond ((r4 : Int) == 0) (
cl Pg F.limb_Shl [s.v, .int .i64 r3] w16 [.one .slice] fun (s9 : Sl) w17 =>
cl Pg F.limb_Shr [s9.v, .int .i64 r3] w17 [.one .slice] fun (s10 : Sl) w18 =>
cl Pg F.limb_Cmp [s10.v, s.v] w18 [.one (.int .i64)] fun (r5 : Int) w19 =>
cond ((r5 : Int) == 0) (
cl Pg F.limb_Shr [s.v, .int .i64 r3] w19 [.one .slice] fun (s11 : Sl) w20 =>
cl Pg F.limb_Shl [s11.v, .int .i64 r3] w20 [.one .slice] fun (s12 : Sl) w21 =>
cl Pg F.limb_Low [s.v, .int .i64 r3] w21 [.one .slice] fun (s13 : Sl) w22 =>
cl Pg F.limb_Add [s12.v, s13.v] w22 [.one .slice] fun (s14 : Sl) w23 =>
cl Pg F.limb_Cmp [s14.v, s.v] w23 [.one (.int .i64)] fun (r6 : Int) w24 =>
cond ((r6 : Int) == 0) (
cl Pg F.zigguratlaw02_wakes [] w24 [.one .bool] fun (ok2 : Bool) w25 =>
J1 ok2 w25) (
J1 false w24)) (
J1 false w19)) (
J1 false w16)) (
J1 false w15)) fun (x1 : Bool) w26 =>
R (.bool x1) w26)
def Dc.zigguratlaw02_LimbLaws : Dc := { N := 101, va := [], vb := [], ann := [(0, 4, [(54, .one .bool)]), (0, 8, [(8, .one .bool)])], ext := Xt }
theorem Eq.zigguratlaw02_LimbLaws (a : Sl) (b : Sl) (y : Int) (n : Int) (R : Value → TW → Prop) (w : TW) : denF Pg Dc.zigguratlaw02_LimbLaws Go.Proofs.Try.f14 (Go.Proofs.Try.f14.body.getD .skip) [a.v, b.v, .int .u64 y, .int .i64 n] w R = Sh.zigguratlaw02_LimbLaws a b y n R w := by kernel_rfl
theorem Ct.zigguratlaw02_LimbLaws {a : Sl} {b : Sl} {y : Int} {n : Int} {w : TW} {X : Nat → Prop} {K : Tel (fl [.one .bool]) (TW → Prop)} (h : Sh.zigguratlaw02_LimbLaws a b y n (Rt X [.one .bool] K w) w.here) : Ct Pg F.zigguratlaw02_LimbLaws [a.v, b.v, .int .u64 y, .int .i64 n] w X [.one .bool] K :=
  ct_of_den (D := Dc.zigguratlaw02_LimbLaws) (fn := Go.Proofs.Try.f14) Xt_ok follows_ok (by kernel_rfl) (by kernel_rfl) (by kernel_rfl) (Eq.mpr (Eq.zigguratlaw02_LimbLaws a b y n _ _) h)

def Sh.zigguratlaw02_count (n : Int) (most : Int) (R : Value → TW → Prop) (w : TW) : Prop :=
bnd (if (0 : Int) > n then 0 else n) fun n1 =>
bnd (if (most : Int) < n1 then most else n1) fun n2 =>
R (.int .i64 n2) w
def Dc.zigguratlaw02_count : Dc := { N := 9, va := [], vb := [], ann := [], ext := Xt }
theorem Eq.zigguratlaw02_count (n : Int) (most : Int) (R : Value → TW → Prop) (w : TW) : denF Pg Dc.zigguratlaw02_count Go.Proofs.Try.f30 (Go.Proofs.Try.f30.body.getD .skip) [.int .i64 n, .int .i64 most] w R = Sh.zigguratlaw02_count n most R w := by kernel_rfl
theorem Ct.zigguratlaw02_count {n : Int} {most : Int} {w : TW} {X : Nat → Prop} {K : Tel (fl [.one (.int .i64)]) (TW → Prop)} (h : Sh.zigguratlaw02_count n most (Rt X [.one (.int .i64)] K w) w.here) : Ct Pg F.zigguratlaw02_count [.int .i64 n, .int .i64 most] w X [.one (.int .i64)] K :=
  ct_of_den (D := Dc.zigguratlaw02_count) (fn := Go.Proofs.Try.f30) Xt_ok follows_ok (by kernel_rfl) (by kernel_rfl) (by kernel_rfl) (Eq.mpr (Eq.zigguratlaw02_count n most _ _) h)

def Sh.zigguratlaw02_from (a : Sl) (R : Value → TW → Prop) (w : TW) : Prop :=
cl Pg F.zigguratref02_From [a.v] w [.one .slice] fun (s : Sl) w1 =>
R (s.v) w1
def Dc.zigguratlaw02_from : Dc := { N := 5, va := [], vb := [], ann := [], ext := Xt }
theorem Eq.zigguratlaw02_from (a : Sl) (R : Value → TW → Prop) (w : TW) : denF Pg Dc.zigguratlaw02_from Go.Proofs.Try.f31 (Go.Proofs.Try.f31.body.getD .skip) [a.v] w R = Sh.zigguratlaw02_from a R w := by kernel_rfl
theorem Ct.zigguratlaw02_from {a : Sl} {w : TW} {X : Nat → Prop} {K : Tel (fl [.one .slice]) (TW → Prop)} (h : Sh.zigguratlaw02_from a (Rt X [.one .slice] K w) w.here) : Ct Pg F.zigguratlaw02_from [a.v] w X [.one .slice] K :=
  ct_of_den (D := Dc.zigguratlaw02_from) (fn := Go.Proofs.Try.f31) Xt_ok follows_ok (by kernel_rfl) (by kernel_rfl) (by kernel_rfl) (Eq.mpr (Eq.zigguratlaw02_from a _ _) h)

def Sh.zigguratlaw02_wakes (R : Value → TW → Prop) (w : TW) : Prop :=
nwb w [.int .u64 1] T.uint64 fun b w1 =>
cl Pg F.limb_Sub [.slice none 0 0, .slice (some ⟨b, 0, none⟩) 1 1] w1 [.one .slice, .one .bool] fun (s : Sl) (ok : Bool) w2 =>
Jn [.bool] (fun J0 =>
cond (!ok) (
cond (((s.n : Int) : Int) == 0) (
nwb w2 [.int .u64 5] T.uint64 fun b1 w3 =>
nwb w3 [.int .u64 7] T.uint64 fun b2 w4 =>
nwb w4 [.slice (some ⟨b1, 0, none⟩) 1 1, .slice (some ⟨b2, 0, none⟩) 1 1] T.api_Nat fun b3 w5 =>
cl Pg F.limb_Join [.int .i64 1, .slice (some ⟨b3, 0, none⟩) 2 2] w5 [.one .slice] fun (s1 : Sl) w6 =>
nwb w6 [.int .u64 5, .int .u64 7] T.uint64 fun b4 w7 =>
cl Pg F.zigguratkeep_Same [s1.v, .slice (some ⟨b4, 0, none⟩) 2 2] w7 [.one .bool] fun (ok1 : Bool) w8 =>
cond ok1 (
cl Pg F.limb_One [.int .u64 3] w8 [.one .slice] fun (s2 : Sl) w9 =>
nwb w9 [.int .u64 3] T.uint64 fun b5 w10 =>
cl Pg F.zigguratkeep_Same [s2.v, .slice (some ⟨b5, 0, none⟩) 1 1] w10 [.one .bool] fun (ok2 : Bool) w11 =>
J0 ok2 w11) (
J0 false w8)) (
J0 false w2)) (
J0 false w2)) fun (x : Bool) w12 =>
R (.bool x) w12
def Dc.zigguratlaw02_wakes : Dc := { N := 28, va := [], vb := [], ann := [(0, 2, [(0, .one .bool)])], ext := Xt }
theorem Eq.zigguratlaw02_wakes (R : Value → TW → Prop) (w : TW) : denF Pg Dc.zigguratlaw02_wakes Go.Proofs.Try.f34 (Go.Proofs.Try.f34.body.getD .skip) [] w R = Sh.zigguratlaw02_wakes R w := by kernel_rfl
theorem Ct.zigguratlaw02_wakes {w : TW} {X : Nat → Prop} {K : Tel (fl [.one .bool]) (TW → Prop)} (h : Sh.zigguratlaw02_wakes (Rt X [.one .bool] K w) w.here) : Ct Pg F.zigguratlaw02_wakes [] w X [.one .bool] K :=
  ct_of_den (D := Dc.zigguratlaw02_wakes) (fn := Go.Proofs.Try.f34) Xt_ok follows_ok (by kernel_rfl) (by kernel_rfl) (by kernel_rfl) (Eq.mpr (Eq.zigguratlaw02_wakes _ _) h)
end Go.Proofs.Ythhohfgpaihngaa.Zg
end

section
set_option maxRecDepth 100000
namespace Go.Proofs.Ythhohfgpaihngaa.Zg
def Sh.zigguratlaw05_SchoolMuls (t : HL [.int .i64, .int .i64, .int .i64, .int .i64, .int .i64, .int .i64, .int .i64, .int .i64, .int .i64, .int .i64, .int .i64]) (a : Sl) (b : Sl) (R : Value → TW → Prop) (w : TW) : Prop :=
nwv w fun w1 =>
cl Pg F.zigguratkeep_Cut [a.v, .int .i64 40] w1 [.one .slice] fun (s : Sl) w2 =>
cl Pg F.zigguratkeep_Cut [b.v, .int .i64 40] w2 [.one .slice] fun (s1 : Sl) w3 =>
cl Pg F.school_New [.agg #[.int .i64 t.1, .int .i64 t.2.1, .int .i64 t.2.2.1, .int .i64 t.2.2.2.1, .int .i64 t.2.2.2.2.1, .int .i64 t.2.2.2.2.2.1, .int .i64 t.2.2.2.2.2.2.1, .int .i64 t.2.2.2.2.2.2.2.1, .int .i64 t.2.2.2.2.2.2.2.2.1, .int .i64 t.2.2.2.2.2.2.2.2.2.1, .int .i64 t.2.2.2.2.2.2.2.2.2.2.1]] w3 [.one .ptr] fun (p : Option Addr) w4 =>
cond (Option.isNone p) (
R (.bool false) w4) (
cl Pg F.zigguratkeep_Lend [s.v] w4 [.one .slice] fun (s2 : Sl) w5 =>
cl Pg F.zigguratkeep_Lend [s1.v] w5 [.one .slice] fun (s3 : Sl) w6 =>
cl Pg F.school_Engine_Mul [.pointer p, s2.v, s3.v] w6 [.one .slice] fun (s4 : Sl) w7 =>
Jn [.bool] (fun J0 =>
cl Pg F.zigguratlaw05_from [s.v] w7 [.one .slice] fun (s5 : Sl) w8 =>
cl Pg F.zigguratlaw05_from [s1.v] w8 [.one .slice] fun (s6 : Sl) w9 =>
cl Pg F.zigguratref02_Mul [s5.v, s6.v] w9 [.one .slice] fun (s7 : Sl) w10 =>
cl Pg F.zigguratref02_Same [s7.v, s4.v] w10 [.one .bool] fun (ok : Bool) w11 =>
cond (!ok) (
J0 true w11) (
nck p fun a1 =>
ldc (.ptr) w11 a1 fun (v : Option Addr) =>
nck v fun a2 =>
cl Pg F.meter_Meter_Muls [.pointer (some a2)] w11 [.one (.int .i64)] fun (r : Int) w12 =>
bnd (wi ((s.n : Int) * (s1.n : Int))) fun n =>
J0 ((r : Int) != n) w12)) fun (x : Bool) w13 =>
cond x (
R (.bool false) w13) (
cl Pg F.zigguratkeep_Spoil [s4.v] w13 [] fun w14 =>
Jn [.bool] (fun J1 =>
cl Pg F.zigguratkeep_Intact [s2.v, s.v] w14 [.one .bool] fun (ok1 : Bool) w15 =>
cond ok1 (
cl Pg F.zigguratkeep_Intact [s3.v, s1.v] w15 [.one .bool] fun (ok2 : Bool) w16 =>
cond ok2 (
cl Pg F.zigguratlaw05_wakes [] w16 [.one .bool] fun (ok3 : Bool) w17 =>
J1 ok3 w17) (
J1 false w16)) (
J1 false w15)) fun (x1 : Bool) w18 =>
R (.bool x1) w18))
def Dc.zigguratlaw05_SchoolMuls : Dc := { N := 63, va := [(3, 63)], vb := [(63, 11)], ann := [(0, 7, [(49, .one .bool)]), (0, 10, [(6, .one .bool)])], ext := Xt }
theorem Eq.zigguratlaw05_SchoolMuls (t : HL [.int .i64, .int .i64, .int .i64, .int .i64, .int .i64, .int .i64, .int .i64, .int .i64, .int .i64, .int .i64, .int .i64]) (a : Sl) (b : Sl) (R : Value → TW → Prop) (w : TW) : denF Pg Dc.zigguratlaw05_SchoolMuls Go.Proofs.Try.f3 (Go.Proofs.Try.f3.body.getD .skip) [.agg (encs [.int .i64, .int .i64, .int .i64, .int .i64, .int .i64, .int .i64, .int .i64, .int .i64, .int .i64, .int .i64, .int .i64] t).toArray, a.v, b.v] w R = Sh.zigguratlaw05_SchoolMuls t a b R w := by kernel_rfl
theorem Ct.zigguratlaw05_SchoolMuls {t : HL [.int .i64, .int .i64, .int .i64, .int .i64, .int .i64, .int .i64, .int .i64, .int .i64, .int .i64, .int .i64, .int .i64]} {a : Sl} {b : Sl} {w : TW} {X : Nat → Prop} {K : Tel (fl [.one .bool]) (TW → Prop)} (h : Sh.zigguratlaw05_SchoolMuls t a b (Rt X [.one .bool] K w) w.here) : Ct Pg F.zigguratlaw05_SchoolMuls [.agg (encs [.int .i64, .int .i64, .int .i64, .int .i64, .int .i64, .int .i64, .int .i64, .int .i64, .int .i64, .int .i64, .int .i64] t).toArray, a.v, b.v] w X [.one .bool] K :=
  ct_of_den (D := Dc.zigguratlaw05_SchoolMuls) (fn := Go.Proofs.Try.f3) Xt_ok follows_ok (by kernel_rfl) (by kernel_rfl) (by kernel_rfl) (Eq.mpr (Eq.zigguratlaw05_SchoolMuls t a b _ _) h)

def Sh.zigguratlaw05_SchoolPowers (t : HL [.int .i64, .int .i64, .int .i64, .int .i64, .int .i64, .int .i64, .int .i64, .int .i64, .int .i64, .int .i64, .int .i64]) (a : Sl) (n : Int) (R : Value → TW → Prop) (w : TW) : Prop :=
nwv w fun w1 =>
cl Pg F.zigguratkeep_Cut [a.v, .int .i64 2] w1 [.one .slice] fun (s : Sl) w2 =>
cl Pg F.school_New [.agg #[.int .i64 t.1, .int .i64 t.2.1, .int .i64 t.2.2.1, .int .i64 t.2.2.2.1, .int .i64 t.2.2.2.2.1, .int .i64 t.2.2.2.2.2.1, .int .i64 t.2.2.2.2.2.2.1, .int .i64 t.2.2.2.2.2.2.2.1, .int .i64 t.2.2.2.2.2.2.2.2.1, .int .i64 t.2.2.2.2.2.2.2.2.2.1, .int .i64 t.2.2.2.2.2.2.2.2.2.2.1]] w2 [.one .ptr] fun (p : Option Addr) w3 =>
cond (Option.isNone p) (
R (.bool false) w3) (
bnd (if (0 : Int) > n then 0 else n) fun n1 =>
bnd (if (64 : Int) < n1 then 64 else n1) fun n2 =>
Jn [.bool] (fun J0 =>
cl Pg F.zigguratlaw05_from [s.v] w3 [.one .slice] fun (s1 : Sl) w4 =>
cl Pg F.zigguratref02_Pow [s1.v, .int .i64 n2] w4 [.one .slice] fun (s2 : Sl) w5 =>
cl Pg F.school_Engine_Power [.pointer p, s.v, .int .i64 n] w5 [.one .slice] fun (s3 : Sl) w6 =>
cl Pg F.zigguratref02_Same [s2.v, s3.v] w6 [.one .bool] fun (ok : Bool) w7 =>
cond ok (
cl Pg F.zigguratlaw05_wakes [] w7 [.one .bool] fun (ok1 : Bool) w8 =>
J0 ok1 w8) (
J0 false w7)) fun (x : Bool) w9 =>
R (.bool x) w9)
def Dc.zigguratlaw05_SchoolPowers : Dc := { N := 30, va := [(3, 30)], vb := [(30, 11)], ann := [(0, 6, [(6, .one .bool)])], ext := Xt }
theorem Eq.zigguratlaw05_SchoolPowers (t : HL [.int .i64, .int .i64, .int .i64, .int .i64, .int .i64, .int .i64, .int .i64, .int .i64, .int .i64, .int .i64, .int .i64]) (a : Sl) (n : Int) (R : Value → TW → Prop) (w : TW) : denF Pg Dc.zigguratlaw05_SchoolPowers Go.Proofs.Try.f5 (Go.Proofs.Try.f5.body.getD .skip) [.agg (encs [.int .i64, .int .i64, .int .i64, .int .i64, .int .i64, .int .i64, .int .i64, .int .i64, .int .i64, .int .i64, .int .i64] t).toArray, a.v, .int .i64 n] w R = Sh.zigguratlaw05_SchoolPowers t a n R w := by kernel_rfl
theorem Ct.zigguratlaw05_SchoolPowers {t : HL [.int .i64, .int .i64, .int .i64, .int .i64, .int .i64, .int .i64, .int .i64, .int .i64, .int .i64, .int .i64, .int .i64]} {a : Sl} {n : Int} {w : TW} {X : Nat → Prop} {K : Tel (fl [.one .bool]) (TW → Prop)} (h : Sh.zigguratlaw05_SchoolPowers t a n (Rt X [.one .bool] K w) w.here) : Ct Pg F.zigguratlaw05_SchoolPowers [.agg (encs [.int .i64, .int .i64, .int .i64, .int .i64, .int .i64, .int .i64, .int .i64, .int .i64, .int .i64, .int .i64, .int .i64] t).toArray, a.v, .int .i64 n] w X [.one .bool] K :=
  ct_of_den (D := Dc.zigguratlaw05_SchoolPowers) (fn := Go.Proofs.Try.f5) Xt_ok follows_ok (by kernel_rfl) (by kernel_rfl) (by kernel_rfl) (Eq.mpr (Eq.zigguratlaw05_SchoolPowers t a n _ _) h)

def Sh.zigguratlaw05_SchoolSquares (t : HL [.int .i64, .int .i64, .int .i64, .int .i64, .int .i64, .int .i64, .int .i64, .int .i64, .int .i64, .int .i64, .int .i64]) (a : Sl) (R : Value → TW → Prop) (w : TW) : Prop :=
nwv w fun w1 =>
cl Pg F.zigguratkeep_Cut [a.v, .int .i64 40] w1 [.one .slice] fun (s : Sl) w2 =>
cl Pg F.school_New [.agg #[.int .i64 t.1, .int .i64 t.2.1, .int .i64 t.2.2.1, .int .i64 t.2.2.2.1, .int .i64 t.2.2.2.2.1, .int .i64 t.2.2.2.2.2.1, .int .i64 t.2.2.2.2.2.2.1, .int .i64 t.2.2.2.2.2.2.2.1, .int .i64 t.2.2.2.2.2.2.2.2.1, .int .i64 t.2.2.2.2.2.2.2.2.2.1, .int .i64 t.2.2.2.2.2.2.2.2.2.2.1]] w2 [.one .ptr] fun (p : Option Addr) w3 =>
cond (Option.isNone p) (
R (.bool false) w3) (
cl Pg F.zigguratkeep_Lend [s.v] w3 [.one .slice] fun (s1 : Sl) w4 =>
cl Pg F.school_Engine_Sqr [.pointer p, s1.v] w4 [.one .slice] fun (s2 : Sl) w5 =>
Jn [.bool] (fun J0 =>
cl Pg F.zigguratlaw05_from [s.v] w5 [.one .slice] fun (s3 : Sl) w6 =>
cl Pg F.zigguratlaw05_from [s.v] w6 [.one .slice] fun (s4 : Sl) w7 =>
cl Pg F.zigguratref02_Mul [s3.v, s4.v] w7 [.one .slice] fun (s5 : Sl) w8 =>
cl Pg F.zigguratref02_Same [s5.v, s2.v] w8 [.one .bool] fun (ok : Bool) w9 =>
cond (!ok) (
J0 true w9) (
nck p fun a1 =>
ldc (.ptr) w9 a1 fun (v : Option Addr) =>
nck v fun a2 =>
cl Pg F.meter_Meter_Muls [.pointer (some a2)] w9 [.one (.int .i64)] fun (r : Int) w10 =>
bnd (wi ((s.n : Int) + 1)) fun n =>
bnd (wi ((s.n : Int) * n)) fun n1 =>
divK .i64 n1 2 fun n2 =>
J0 ((r : Int) != n2) w10)) fun (x : Bool) w11 =>
cond x (
R (.bool false) w11) (
cl Pg F.zigguratkeep_Spoil [s2.v] w11 [] fun w12 =>
Jn [.bool] (fun J1 =>
cl Pg F.zigguratkeep_Intact [s1.v, s.v] w12 [.one .bool] fun (ok1 : Bool) w13 =>
cond ok1 (
cl Pg F.zigguratlaw05_wakes [] w13 [.one .bool] fun (ok2 : Bool) w14 =>
J1 ok2 w14) (
J1 false w13)) fun (x1 : Bool) w15 =>
R (.bool x1) w15))
def Dc.zigguratlaw05_SchoolSquares : Dc := { N := 52, va := [(2, 52)], vb := [(52, 11)], ann := [(0, 7, [(43, .one .bool)]), (0, 10, [(4, .one .bool)])], ext := Xt }
theorem Eq.zigguratlaw05_SchoolSquares (t : HL [.int .i64, .int .i64, .int .i64, .int .i64, .int .i64, .int .i64, .int .i64, .int .i64, .int .i64, .int .i64, .int .i64]) (a : Sl) (R : Value → TW → Prop) (w : TW) : denF Pg Dc.zigguratlaw05_SchoolSquares Go.Proofs.Try.f8 (Go.Proofs.Try.f8.body.getD .skip) [.agg (encs [.int .i64, .int .i64, .int .i64, .int .i64, .int .i64, .int .i64, .int .i64, .int .i64, .int .i64, .int .i64, .int .i64] t).toArray, a.v] w R = Sh.zigguratlaw05_SchoolSquares t a R w := by kernel_rfl
theorem Ct.zigguratlaw05_SchoolSquares {t : HL [.int .i64, .int .i64, .int .i64, .int .i64, .int .i64, .int .i64, .int .i64, .int .i64, .int .i64, .int .i64, .int .i64]} {a : Sl} {w : TW} {X : Nat → Prop} {K : Tel (fl [.one .bool]) (TW → Prop)} (h : Sh.zigguratlaw05_SchoolSquares t a (Rt X [.one .bool] K w) w.here) : Ct Pg F.zigguratlaw05_SchoolSquares [.agg (encs [.int .i64, .int .i64, .int .i64, .int .i64, .int .i64, .int .i64, .int .i64, .int .i64, .int .i64, .int .i64, .int .i64] t).toArray, a.v] w X [.one .bool] K :=
  ct_of_den (D := Dc.zigguratlaw05_SchoolSquares) (fn := Go.Proofs.Try.f8) Xt_ok follows_ok (by kernel_rfl) (by kernel_rfl) (by kernel_rfl) (Eq.mpr (Eq.zigguratlaw05_SchoolSquares t a _ _) h)

def Sh.zigguratlaw05_SchoolLaws (t : HL [.int .i64, .int .i64, .int .i64, .int .i64, .int .i64, .int .i64, .int .i64, .int .i64, .int .i64, .int .i64, .int .i64]) (a : Sl) (b : Sl) (d : Sl) (R : Value → TW → Prop) (w : TW) : Prop :=
nwv w fun w1 =>
cl Pg F.zigguratkeep_Cut [a.v, .int .i64 14] w1 [.one .slice] fun (s : Sl) w2 =>
cl Pg F.zigguratkeep_Cut [b.v, .int .i64 14] w2 [.one .slice] fun (s1 : Sl) w3 =>
cl Pg F.zigguratkeep_Cut [d.v, .int .i64 14] w3 [.one .slice] fun (s2 : Sl) w4 =>
cl Pg F.school_New [.agg #[.int .i64 t.1, .int .i64 t.2.1, .int .i64 t.2.2.1, .int .i64 t.2.2.2.1, .int .i64 t.2.2.2.2.1, .int .i64 t.2.2.2.2.2.1, .int .i64 t.2.2.2.2.2.2.1, .int .i64 t.2.2.2.2.2.2.2.1, .int .i64 t.2.2.2.2.2.2.2.2.1, .int .i64 t.2.2.2.2.2.2.2.2.2.1, .int .i64 t.2.2.2.2.2.2.2.2.2.2.1]] w4 [.one .ptr] fun (p : Option Addr) w5 =>
cond (Option.isNone p) (
R (.bool false) w5) (
Jn [.bool] (fun J0 =>
cl Pg F.school_Engine_Mul [.pointer p, s.v, s1.v] w5 [.one .slice] fun (s3 : Sl) w6 =>
cl Pg F.school_Engine_Mul [.pointer p, s1.v, s.v] w6 [.one .slice] fun (s4 : Sl) w7 =>
cl Pg F.zigguratkeep_Same [s3.v, s4.v] w7 [.one .bool] fun (ok : Bool) w8 =>
cond (!ok) (
J0 true w8) (
cl Pg F.school_Engine_Mul [.pointer p, s.v, s1.v] w8 [.one .slice] fun (s5 : Sl) w9 =>
cl Pg F.school_Engine_Mul [.pointer p, s5.v, s2.v] w9 [.one .slice] fun (s6 : Sl) w10 =>
cl Pg F.school_Engine_Mul [.pointer p, s1.v, s2.v] w10 [.one .slice] fun (s7 : Sl) w11 =>
cl Pg F.school_Engine_Mul [.pointer p, s.v, s7.v] w11 [.one .slice] fun (s8 : Sl) w12 =>
cl Pg F.zigguratkeep_Same [s6.v, s8.v] w12 [.one .bool] fun (ok1 : Bool) w13 =>
cond (!ok1) (
J0 true w13) (
cl Pg F.school_Engine_Sqr [.pointer p, s.v] w13 [.one .slice] fun (s9 : Sl) w14 =>
cl Pg F.school_Engine_Mul [.pointer p, s.v, s.v] w14 [.one .slice] fun (s10 : Sl) w15 =>
cl Pg F.zigguratkeep_Same [s9.v, s10.v] w15 [.one .bool] fun (ok2 : Bool) w16 =>
J0 (!ok2) w16))) fun (x : Bool) w17 =>
cond x (
R (.bool false) w17) (
nck p fun a1 =>
ldc (.ptr) w17 a1 fun (v : Option Addr) =>
nck v fun a2 =>
cl Pg F.meter_Meter_Muls [.pointer (some a2)] w17 [.one (.int .i64)] fun (r : Int) w18 =>
nck p fun a3 =>
ldc (.ptr) w18 a3 fun (v1 : Option Addr) =>
nck v1 fun a4 =>
cl Pg F.meter_Meter_Spend [.pointer (some a4), .int .i64 5] w18 [.one (.int .i64)] fun (_ : Int) w19 =>
Jn [.bool] (fun J1 =>
nck p fun a5 =>
ldc (.ptr) w19 a5 fun (v2 : Option Addr) =>
nck v2 fun a6 =>
cl Pg F.meter_Meter_Muls [.pointer (some a6)] w19 [.one (.int .i64)] fun (r2 : Int) w20 =>
bnd (wi (r + 5)) fun n =>
cond ((r2 : Int) != n) (
J1 true w20) (
nck p fun a7 =>
ldc (.ptr) w20 a7 fun (v3 : Option Addr) =>
nck v3 fun a8 =>
cl Pg F.meter_Meter_Muls [.pointer (some a8)] w20 [.one (.int .i64)] fun (r3 : Int) w21 =>
bnd (wi (r + 5)) fun n1 =>
J1 ((r3 : Int) != n1) w21)) fun (x1 : Bool) w22 =>
cond x1 (
R (.bool false) w22) (
nck p fun a9 =>
ldc (.ptr) w22 a9 fun (v4 : Option Addr) =>
nck v4 fun a10 =>
cl Pg F.meter_Meter_Reset [.pointer (some a10)] w22 [] fun w23 =>
Jn [.bool] (fun J2 =>
nck p fun a11 =>
ldc (.ptr) w23 a11 fun (v5 : Option Addr) =>
nck v5 fun a12 =>
cl Pg F.meter_Meter_Muls [.pointer (some a12)] w23 [.one (.int .i64)] fun (r4 : Int) w24 =>
cond ((r4 : Int) == 0) (
cl Pg F.zigguratlaw05_wakes [] w24 [.one .bool] fun (ok3 : Bool) w25 =>
J2 ok3 w25) (
J2 false w24)) fun (x2 : Bool) w26 =>
R (.bool x2) w26)))
def Dc.zigguratlaw05_SchoolLaws : Dc := { N := 114, va := [(4, 114)], vb := [(114, 11)], ann := [(0, 5, [(59, .one .bool)]), (0, 9, [(95, .one .bool)]), (0, 12, [(8, .one .bool)])], ext := Xt }
theorem Eq.zigguratlaw05_SchoolLaws (t : HL [.int .i64, .int .i64, .int .i64, .int .i64, .int .i64, .int .i64, .int .i64, .int .i64, .int .i64, .int .i64, .int .i64]) (a : Sl) (b : Sl) (d : Sl) (R : Value → TW → Prop) (w : TW) : denF Pg Dc.zigguratlaw05_SchoolLaws Go.Proofs.Try.f9 (Go.Proofs.Try.f9.body.getD .skip) [.agg (encs [.int .i64, .int .i64, .int .i64, .int .i64, .int .i64, .int .i64, .int .i64, .int .i64, .int .i64, .int .i64, .int .i64] t).toArray, a.v, b.v, d.v] w R = Sh.zigguratlaw05_SchoolLaws t a b d R w := by kernel_rfl
theorem Ct.zigguratlaw05_SchoolLaws {t : HL [.int .i64, .int .i64, .int .i64, .int .i64, .int .i64, .int .i64, .int .i64, .int .i64, .int .i64, .int .i64, .int .i64]} {a : Sl} {b : Sl} {d : Sl} {w : TW} {X : Nat → Prop} {K : Tel (fl [.one .bool]) (TW → Prop)} (h : Sh.zigguratlaw05_SchoolLaws t a b d (Rt X [.one .bool] K w) w.here) : Ct Pg F.zigguratlaw05_SchoolLaws [.agg (encs [.int .i64, .int .i64, .int .i64, .int .i64, .int .i64, .int .i64, .int .i64, .int .i64, .int .i64, .int .i64, .int .i64] t).toArray, a.v, b.v, d.v] w X [.one .bool] K :=
  ct_of_den (D := Dc.zigguratlaw05_SchoolLaws) (fn := Go.Proofs.Try.f9) Xt_ok follows_ok (by kernel_rfl) (by kernel_rfl) (by kernel_rfl) (Eq.mpr (Eq.zigguratlaw05_SchoolLaws t a b d _ _) h)

def Sh.zigguratlaw05_from (a : Sl) (R : Value → TW → Prop) (w : TW) : Prop :=
cl Pg F.zigguratref02_From [a.v] w [.one .slice] fun (s : Sl) w1 =>
R (s.v) w1
def Dc.zigguratlaw05_from : Dc := { N := 5, va := [], vb := [], ann := [], ext := Xt }
theorem Eq.zigguratlaw05_from (a : Sl) (R : Value → TW → Prop) (w : TW) : denF Pg Dc.zigguratlaw05_from Go.Proofs.Try.f21 (Go.Proofs.Try.f21.body.getD .skip) [a.v] w R = Sh.zigguratlaw05_from a R w := by kernel_rfl
theorem Ct.zigguratlaw05_from {a : Sl} {w : TW} {X : Nat → Prop} {K : Tel (fl [.one .slice]) (TW → Prop)} (h : Sh.zigguratlaw05_from a (Rt X [.one .slice] K w) w.here) : Ct Pg F.zigguratlaw05_from [a.v] w X [.one .slice] K :=
  ct_of_den (D := Dc.zigguratlaw05_from) (fn := Go.Proofs.Try.f21) Xt_ok follows_ok (by kernel_rfl) (by kernel_rfl) (by kernel_rfl) (Eq.mpr (Eq.zigguratlaw05_from a _ _) h)

def Sh.zigguratlaw05_wakes (R : Value → TW → Prop) (w : TW) : Prop :=
cl Pg F.school_New [.agg #[.int .i64 0, .int .i64 0, .int .i64 0, .int .i64 0, .int .i64 0, .int .i64 0, .int .i64 0, .int .i64 0, .int .i64 0, .int .i64 0, .int .i64 0]] w [.one .ptr] fun (p : Option Addr) w1 =>
Jn [.bool] (fun J0 =>
cond (!(Option.isNone p)) (
nwb w1 [.int .u64 18446744073709551615] T.uint64 fun b w2 =>
nwb w2 [.int .u64 18446744073709551615] T.uint64 fun b1 w3 =>
cl Pg F.school_Engine_Mul [.pointer p, .slice (some ⟨b, 0, none⟩) 1 1, .slice (some ⟨b1, 0, none⟩) 1 1] w3 [.one .slice] fun (s : Sl) w4 =>
nwb w4 [.int .u64 1, .int .u64 18446744073709551614] T.uint64 fun b2 w5 =>
cl Pg F.zigguratkeep_Same [s.v, .slice (some ⟨b2, 0, none⟩) 2 2] w5 [.one .bool] fun (ok : Bool) w6 =>
cond ok (
nck p fun a =>
ldc (.ptr) w6 a fun (v : Option Addr) =>
nck v fun a1 =>
cl Pg F.meter_Meter_Muls [.pointer (some a1)] w6 [.one (.int .i64)] fun (r : Int) w7 =>
J0 ((r : Int) == 1) w7) (
J0 false w6)) (
J0 false w1)) fun (x : Bool) w8 =>
R (.bool x) w8
def Dc.zigguratlaw05_wakes : Dc := { N := 24, va := [], vb := [], ann := [(0, 2, [(0, .one .bool)])], ext := Xt }
theorem Eq.zigguratlaw05_wakes (R : Value → TW → Prop) (w : TW) : denF Pg Dc.zigguratlaw05_wakes Go.Proofs.Try.f25 (Go.Proofs.Try.f25.body.getD .skip) [] w R = Sh.zigguratlaw05_wakes R w := by kernel_rfl
theorem Ct.zigguratlaw05_wakes {w : TW} {X : Nat → Prop} {K : Tel (fl [.one .bool]) (TW → Prop)} (h : Sh.zigguratlaw05_wakes (Rt X [.one .bool] K w) w.here) : Ct Pg F.zigguratlaw05_wakes [] w X [.one .bool] K :=
  ct_of_den (D := Dc.zigguratlaw05_wakes) (fn := Go.Proofs.Try.f25) Xt_ok follows_ok (by kernel_rfl) (by kernel_rfl) (by kernel_rfl) (Eq.mpr (Eq.zigguratlaw05_wakes _ _) h)
end Go.Proofs.Ythhohfgpaihngaa.Zg
end

section
set_option maxRecDepth 100000
namespace Go.Proofs.Ythhohfgpaihngaa.Zg
def Sh.zigguratref02_Same (a : Sl) (b : Sl) (R : Value → TW → Prop) (w : TW) : Prop :=
cl Pg F.zigguratref02_To [a.v] w [.one .slice] fun (s : Sl) w1 =>
cond (((s.n : Int) : Int) != (b.n : Int)) (
R (.bool false) w1) (
Jn [] (fun J0 =>
Lp [.int .i64] (fun (i : Int) w2 C0 =>
cond (decide ((i : Int) < (s.n : Int))) (
ixa s i 1 fun a1 =>
ldc (.int .u64) w2.drew a1 fun (v : Int) =>
ixa b i 1 fun a2 =>
ldc (.int .u64) w2.drew a2 fun (v1 : Int) =>
cond ((v : Int) != v1) (
R (.bool false) w2.drew) (
bnd (wi (i + 1)) fun n =>
C0 n w2.drew)) (
J0 w2)) 0 w1) fun  w3 =>
R (.bool true) w3)
def Dc.zigguratref02_Same : Dc := { N := 29, va := [], vb := [], ann := [(2, 0, []), (3, 5, [(6, .one (.int .i64))])], ext := Xt }
theorem Eq.zigguratref02_Same (a : Sl) (b : Sl) (R : Value → TW → Prop) (w : TW) : denF Pg Dc.zigguratref02_Same Go.Proofs.Try.f19 (Go.Proofs.Try.f19.body.getD .skip) [a.v, b.v] w R = Sh.zigguratref02_Same a b R w := by kernel_rfl
theorem Ct.zigguratref02_Same {a : Sl} {b : Sl} {w : TW} {X : Nat → Prop} {K : Tel (fl [.one .bool]) (TW → Prop)} (h : Sh.zigguratref02_Same a b (Rt X [.one .bool] K w) w.here) : Ct Pg F.zigguratref02_Same [a.v, b.v] w X [.one .bool] K :=
  ct_of_den (D := Dc.zigguratref02_Same) (fn := Go.Proofs.Try.f19) Xt_ok follows_ok (by kernel_rfl) (by kernel_rfl) (by kernel_rfl) (Eq.mpr (Eq.zigguratref02_Same a b _ _) h)

def Sh.zigguratref02_Mul (a : Sl) (b : Sl) (R : Value → TW → Prop) (w : TW) : Prop :=
bnd (wi ((a.n : Int) + (b.n : Int))) fun n =>
mks w n n T.uint64 8 [.int .u64 0] fun s w1 =>
Jn [] (fun J0 =>
Lp [.int .i64] (fun (i : Int) w2 C0 =>
cond (decide ((i : Int) < (a.n : Int))) (
Jn [.int .u64] (fun J1 =>
Lp [.int .u64, .int .i64] (fun (c : Int) (j : Int) w3 C1 =>
cond (decide ((j : Int) < (b.n : Int))) (
bnd (wi (i + j)) fun n1 =>
ixa s n1 1 fun a1 =>
ldc (.int .u64) w3.drew a1 fun (v : Int) =>
ixa a i 1 fun a2 =>
ldc (.int .u64) w3.drew a2 fun (v1 : Int) =>
ixa b j 1 fun a3 =>
ldc (.int .u64) w3.drew a3 fun (v2 : Int) =>
bnd (wu (v1 * v2)) fun n2 =>
bnd (wu (v + n2)) fun n3 =>
bnd (wu (n3 + c)) fun n4 =>
bnd (wi (i + j)) fun n5 =>
remK n4 4294967296 fun n6 =>
ixa s n5 1 fun a4 =>
stc w3.drew a4 (.int .u64 n6) fun w4 =>
divK .u64 n4 4294967296 fun n7 =>
bnd (wi (j + 1)) fun n8 =>
C1 n7 n8 w4) (
J1 c w3)) 0 0 w2) fun (c1 : Int) w5 =>
bnd (wi (i + (b.n : Int))) fun n9 =>
ixa s n9 1 fun a5 =>
stc w5 a5 (.int .u64 c1) fun w6 =>
bnd (wi (i + 1)) fun n10 =>
C0 n10 w6) (
J0 w2)) 0 w1) fun  w7 =>
cl Pg F.zigguratref02_norm [s.v] w7 [.one .slice] fun (s1 : Sl) w8 =>
R (s1.v) w8
def Dc.zigguratref02_Mul : Dc := { N := 64, va := [], vb := [], ann := [(2, 0, []), (3, 3, [(6, .one (.int .i64))]), (2, 2, [(7, .one (.int .u64))]), (3, 7, [(7, .one (.int .u64)), (8, .one (.int .i64))])], ext := Xt }
theorem Eq.zigguratref02_Mul (a : Sl) (b : Sl) (R : Value → TW → Prop) (w : TW) : denF Pg Dc.zigguratref02_Mul Go.Proofs.Try.f20 (Go.Proofs.Try.f20.body.getD .skip) [a.v, b.v] w R = Sh.zigguratref02_Mul a b R w := by kernel_rfl
theorem Ct.zigguratref02_Mul {a : Sl} {b : Sl} {w : TW} {X : Nat → Prop} {K : Tel (fl [.one .slice]) (TW → Prop)} (h : Sh.zigguratref02_Mul a b (Rt X [.one .slice] K w) w.here) : Ct Pg F.zigguratref02_Mul [a.v, b.v] w X [.one .slice] K :=
  ct_of_den (D := Dc.zigguratref02_Mul) (fn := Go.Proofs.Try.f20) Xt_ok follows_ok (by kernel_rfl) (by kernel_rfl) (by kernel_rfl) (Eq.mpr (Eq.zigguratref02_Mul a b _ _) h)

def Sh.zigguratref02_Add (a : Sl) (b : Sl) (R : Value → TW → Prop) (w : TW) : Prop :=
bnd (if ((b.n : Int) : Int) > (a.n : Int) then (b.n : Int) else (a.n : Int)) fun n =>
bnd (wi (n + 1)) fun n1 =>
mks w 0 n1 T.uint64 8 [.int .u64 0] fun s w1 =>
Jn [.slice] (fun J0 =>
Lp [.slice, .int .u64, .int .i64] (fun (out : Sl) (c : Int) (i : Int) w2 C0 =>
Jn [.bool] (fun J1 =>
cond (decide ((i : Int) < (a.n : Int))) (
J1 true w2) (
cond (decide ((i : Int) < (b.n : Int))) (
J1 true w2) (
J1 (decide ((c : Int) > 0)) w2))) fun (x : Bool) w3 =>
cond x (
Jn [.int .u64] (fun J2 =>
cond (decide ((i : Int) < (a.n : Int))) (
ixa a i 1 fun a1 =>
ldc (.int .u64) w3 a1 fun (v : Int) =>
bnd (wu (c + v)) fun n2 =>
J2 n2 w3) (
J2 c w3)) fun (c1 : Int) w4 =>
Jn [.int .u64] (fun J3 =>
cond (decide ((i : Int) < (b.n : Int))) (
ixa b i 1 fun a2 =>
ldc (.int .u64) w4 a2 fun (v1 : Int) =>
bnd (wu (c1 + v1)) fun n3 =>
J3 n3 w4) (
J3 c1 w4)) fun (c2 : Int) w5 =>
remK c2 4294967296 fun n4 =>
nwb w5 [.int .u64 n4] T.uint64 fun b1 w6 =>
apd w6 T.uint64 1 8 out ⟨(some ⟨b1, 0, none⟩), 1, 1⟩ fun s1 w7 =>
divK .u64 c2 4294967296 fun n5 =>
bnd (wi (i + 1)) fun n6 =>
C0 s1 n5 n6 w7) (
J0 out w3)) s 0 0 w1) fun (out1 : Sl) w8 =>
cl Pg F.zigguratref02_norm [out1.v] w8 [.one .slice] fun (s2 : Sl) w9 =>
R (s2.v) w9
def Dc.zigguratref02_Add : Dc := { N := 60, va := [], vb := [], ann := [(2, 0, [(5, .one .slice)]), (3, 4, [(5, .one .slice), (6, .one (.int .u64)), (7, .one (.int .i64))]), (0, 4, [(28, .one .bool)]), (1, 7, [(6, .one (.int .u64))]), (1, 9, [(6, .one (.int .u64))])], ext := Xt }
theorem Eq.zigguratref02_Add (a : Sl) (b : Sl) (R : Value → TW → Prop) (w : TW) : denF Pg Dc.zigguratref02_Add Go.Proofs.Try.f28 (Go.Proofs.Try.f28.body.getD .skip) [a.v, b.v] w R = Sh.zigguratref02_Add a b R w := by kernel_rfl
theorem Ct.zigguratref02_Add {a : Sl} {b : Sl} {w : TW} {X : Nat → Prop} {K : Tel (fl [.one .slice]) (TW → Prop)} (h : Sh.zigguratref02_Add a b (Rt X [.one .slice] K w) w.here) : Ct Pg F.zigguratref02_Add [a.v, b.v] w X [.one .slice] K :=
  ct_of_den (D := Dc.zigguratref02_Add) (fn := Go.Proofs.Try.f28) Xt_ok follows_ok (by kernel_rfl) (by kernel_rfl) (by kernel_rfl) (Eq.mpr (Eq.zigguratref02_Add a b _ _) h)

def Sh.zigguratref02_Shl (a : Sl) (n : Int) (R : Value → TW → Prop) (w : TW) : Prop :=
cond (((a.n : Int) : Int) == 0) (
R (.slice none 0 0) w) (
divK .i64 n 32 fun n1 =>
divK .i64 n 32 fun n2 =>
bnd (wi (n2 + (a.n : Int))) fun n3 =>
bnd (wi (n3 + 1)) fun n4 =>
mks w n1 n4 T.uint64 8 [.int .u64 0] fun s w1 =>
Jn [.slice, .int .u64] (fun J0 =>
Lp [.slice, .int .u64, .int .i64] (fun (out : Sl) (c : Int) (i : Int) w2 C0 =>
cond (decide ((i : Int) < (a.n : Int))) (
ixa a i 1 fun a1 =>
ldc (.int .u64) w2 a1 fun (v : Int) =>
remK n 32 fun n5 =>
bnd (wu (n5)) fun n6 =>
shlK .u64 v n6 fun n7 =>
bnd (wu (c + n7)) fun n8 =>
remK n8 4294967296 fun n9 =>
nwb w2 [.int .u64 n9] T.uint64 fun b w3 =>
apd w3 T.uint64 1 8 out ⟨(some ⟨b, 0, none⟩), 1, 1⟩ fun s1 w4 =>
divK .u64 n8 4294967296 fun n10 =>
bnd (wi (i + 1)) fun n11 =>
C0 s1 n10 n11 w4) (
J0 out c w2)) s 0 0 w1) fun (out1 : Sl) (c1 : Int) w5 =>
nwb w5 [.int .u64 c1] T.uint64 fun b1 w6 =>
apd w6 T.uint64 1 8 out1 ⟨(some ⟨b1, 0, none⟩), 1, 1⟩ fun s2 w7 =>
cl Pg F.zigguratref02_norm [s2.v] w7 [.one .slice] fun (s3 : Sl) w8 =>
R (s3.v) w8)
def Dc.zigguratref02_Shl : Dc := { N := 48, va := [], vb := [], ann := [(2, 0, [(5, .one .slice), (6, .one (.int .u64))]), (3, 6, [(5, .one .slice), (6, .one (.int .u64)), (7, .one (.int .i64))])], ext := Xt }
theorem Eq.zigguratref02_Shl (a : Sl) (n : Int) (R : Value → TW → Prop) (w : TW) : denF Pg Dc.zigguratref02_Shl Go.Proofs.Try.f29 (Go.Proofs.Try.f29.body.getD .skip) [a.v, .int .i64 n] w R = Sh.zigguratref02_Shl a n R w := by kernel_rfl
theorem Ct.zigguratref02_Shl {a : Sl} {n : Int} {w : TW} {X : Nat → Prop} {K : Tel (fl [.one .slice]) (TW → Prop)} (h : Sh.zigguratref02_Shl a n (Rt X [.one .slice] K w) w.here) : Ct Pg F.zigguratref02_Shl [a.v, .int .i64 n] w X [.one .slice] K :=
  ct_of_den (D := Dc.zigguratref02_Shl) (fn := Go.Proofs.Try.f29) Xt_ok follows_ok (by kernel_rfl) (by kernel_rfl) (by kernel_rfl) (Eq.mpr (Eq.zigguratref02_Shl a n _ _) h)

def Sh.zigguratref02_Pow (a : Sl) (n : Int) (R : Value → TW → Prop) (w : TW) : Prop :=
cl Pg F.zigguratref02_Small [.int .u64 1] w [.one .slice] fun (s : Sl) w1 =>
Jn [.slice] (fun J0 =>
Lp [.slice, .int .i64] (fun (out : Sl) (i : Int) w2 C0 =>
cond (decide ((i : Int) < n)) (
cl Pg F.zigguratref02_Mul [out.v, a.v] w2 [.one .slice] fun (s1 : Sl) w3 =>
bnd (wi (i + 1)) fun n1 =>
C0 s1 n1 w3) (
J0 out w2)) s 0 w1) fun (out1 : Sl) w4 =>
R (out1.v) w4
def Dc.zigguratref02_Pow : Dc := { N := 17, va := [], vb := [], ann := [(2, 0, [(5, .one .slice)]), (3, 3, [(5, .one .slice), (6, .one (.int .i64))])], ext := Xt }
theorem Eq.zigguratref02_Pow (a : Sl) (n : Int) (R : Value → TW → Prop) (w : TW) : denF Pg Dc.zigguratref02_Pow Go.Proofs.Try.f35 (Go.Proofs.Try.f35.body.getD .skip) [a.v, .int .i64 n] w R = Sh.zigguratref02_Pow a n R w := by kernel_rfl
theorem Ct.zigguratref02_Pow {a : Sl} {n : Int} {w : TW} {X : Nat → Prop} {K : Tel (fl [.one .slice]) (TW → Prop)} (h : Sh.zigguratref02_Pow a n (Rt X [.one .slice] K w) w.here) : Ct Pg F.zigguratref02_Pow [a.v, .int .i64 n] w X [.one .slice] K :=
  ct_of_den (D := Dc.zigguratref02_Pow) (fn := Go.Proofs.Try.f35) Xt_ok follows_ok (by kernel_rfl) (by kernel_rfl) (by kernel_rfl) (Eq.mpr (Eq.zigguratref02_Pow a n _ _) h)

def Sh.zigguratref02_Sum (l : Sl) (R : Value → TW → Prop) (w : TW) : Prop :=
Jn [.slice] (fun J0 =>
Lp [.slice, .int .i64] (fun (out : Sl) (i : Int) w1 C0 =>
cond (decide ((i : Int) < (l.n : Int))) (
ixa l i 1 fun a =>
ldc (.slice) w1 a fun (v : Sl) =>
cl Pg F.zigguratref02_From [v.v] w1 [.one .slice] fun (s : Sl) w2 =>
cl Pg F.zigguratref02_Add [out.v, s.v] w2 [.one .slice] fun (s1 : Sl) w3 =>
bnd (wi (i + 1)) fun n =>
C0 s1 n w3) (
J0 out w1)) Sl.nil 0 w) fun (out1 : Sl) w4 =>
R (out1.v) w4
def Dc.zigguratref02_Sum : Dc := { N := 19, va := [], vb := [], ann := [(2, 0, [(3, .one .slice)]), (3, 3, [(3, .one .slice), (4, .one (.int .i64))])], ext := Xt }
theorem Eq.zigguratref02_Sum (l : Sl) (R : Value → TW → Prop) (w : TW) : denF Pg Dc.zigguratref02_Sum Go.Proofs.Try.f37 (Go.Proofs.Try.f37.body.getD .skip) [l.v] w R = Sh.zigguratref02_Sum l R w := by kernel_rfl
theorem Ct.zigguratref02_Sum {l : Sl} {w : TW} {X : Nat → Prop} {K : Tel (fl [.one .slice]) (TW → Prop)} (h : Sh.zigguratref02_Sum l (Rt X [.one .slice] K w) w.here) : Ct Pg F.zigguratref02_Sum [l.v] w X [.one .slice] K :=
  ct_of_den (D := Dc.zigguratref02_Sum) (fn := Go.Proofs.Try.f37) Xt_ok follows_ok (by kernel_rfl) (by kernel_rfl) (by kernel_rfl) (Eq.mpr (Eq.zigguratref02_Sum l _ _) h)

def Sh.zigguratref02_Small (y : Int) (R : Value → TW → Prop) (w : TW) : Prop :=
nwb w [.int .u64 y] T.uint64 fun b w1 =>
cl Pg F.zigguratref02_From [.slice (some ⟨b, 0, none⟩) 1 1] w1 [.one .slice] fun (s : Sl) w2 =>
R (s.v) w2
def Dc.zigguratref02_Small : Dc := { N := 6, va := [], vb := [], ann := [], ext := Xt }
theorem Eq.zigguratref02_Small (y : Int) (R : Value → TW → Prop) (w : TW) : denF Pg Dc.zigguratref02_Small Go.Proofs.Try.f39 (Go.Proofs.Try.f39.body.getD .skip) [.int .u64 y] w R = Sh.zigguratref02_Small y R w := by kernel_rfl
theorem Ct.zigguratref02_Small {y : Int} {w : TW} {X : Nat → Prop} {K : Tel (fl [.one .slice]) (TW → Prop)} (h : Sh.zigguratref02_Small y (Rt X [.one .slice] K w) w.here) : Ct Pg F.zigguratref02_Small [.int .u64 y] w X [.one .slice] K :=
  ct_of_den (D := Dc.zigguratref02_Small) (fn := Go.Proofs.Try.f39) Xt_ok follows_ok (by kernel_rfl) (by kernel_rfl) (by kernel_rfl) (Eq.mpr (Eq.zigguratref02_Small y _ _) h)

def Sh.zigguratref02_Low (a : Sl) (n : Int) (R : Value → TW → Prop) (w : TW) : Prop :=
cl Pg F.zigguratref02_Shr [a.v, .int .i64 n] w [.one .slice] fun (s : Sl) w1 =>
cl Pg F.zigguratref02_Shl [s.v, .int .i64 n] w1 [.one .slice] fun (s1 : Sl) w2 =>
cl Pg F.zigguratref02_Sub [a.v, s1.v] w2 [.one .slice] fun (s2 : Sl) w3 =>
R (s2.v) w3
def Dc.zigguratref02_Low : Dc := { N := 12, va := [], vb := [], ann := [], ext := Xt }
theorem Eq.zigguratref02_Low (a : Sl) (n : Int) (R : Value → TW → Prop) (w : TW) : denF Pg Dc.zigguratref02_Low Go.Proofs.Try.f42 (Go.Proofs.Try.f42.body.getD .skip) [a.v, .int .i64 n] w R = Sh.zigguratref02_Low a n R w := by kernel_rfl
theorem Ct.zigguratref02_Low {a : Sl} {n : Int} {w : TW} {X : Nat → Prop} {K : Tel (fl [.one .slice]) (TW → Prop)} (h : Sh.zigguratref02_Low a n (Rt X [.one .slice] K w) w.here) : Ct Pg F.zigguratref02_Low [a.v, .int .i64 n] w X [.one .slice] K :=
  ct_of_den (D := Dc.zigguratref02_Low) (fn := Go.Proofs.Try.f42) Xt_ok follows_ok (by kernel_rfl) (by kernel_rfl) (by kernel_rfl) (Eq.mpr (Eq.zigguratref02_Low a n _ _) h)

def Sh.zigguratref02_Shr (a : Sl) (n : Int) (R : Value → TW → Prop) (w : TW) : Prop :=
divK .i64 n 32 fun n1 =>
Jn [.slice] (fun J0 =>
Lp [.slice, .int .i64] (fun (out : Sl) (i : Int) w1 C0 =>
cond (decide ((i : Int) < (a.n : Int))) (
ixa a i 1 fun a1 =>
ldc (.int .u64) w1 a1 fun (v : Int) =>
remK n 32 fun n2 =>
bnd (wu (n2)) fun n3 =>
shrK .u64 v n3 fun n4 =>
bnd (wi (i + 1)) fun n5 =>
Jn [.int .u64] (fun J1 =>
cond (decide ((n5 : Int) < (a.n : Int))) (
bnd (wi (i + 1)) fun n6 =>
ixa a n6 1 fun a2 =>
ldc (.int .u64) w1 a2 fun (v1 : Int) =>
remK n 32 fun n7 =>
bnd (wi (32 - n7)) fun n8 =>
bnd (wu (n8)) fun n9 =>
shlK .u64 v1 n9 fun n10 =>
remK n10 4294967296 fun n11 =>
bnd (wu (n4 + n11)) fun n12 =>
J1 n12 w1) (
J1 n4 w1)) fun (y : Int) w2 =>
remK y 4294967296 fun n13 =>
nwb w2 [.int .u64 n13] T.uint64 fun b w3 =>
apd w3 T.uint64 1 8 out ⟨(some ⟨b, 0, none⟩), 1, 1⟩ fun s w4 =>
bnd (wi (i + 1)) fun n14 =>
C0 s n14 w4) (
J0 out w1)) Sl.nil n1 w) fun (out1 : Sl) w5 =>
cl Pg F.zigguratref02_norm [out1.v] w5 [.one .slice] fun (s1 : Sl) w6 =>
R (s1.v) w6
def Dc.zigguratref02_Shr : Dc := { N := 49, va := [], vb := [], ann := [(2, 0, [(5, .one .slice)]), (3, 3, [(5, .one .slice), (6, .one (.int .i64))]), (1, 7, [(7, .one (.int .u64))])], ext := Xt }
theorem Eq.zigguratref02_Shr (a : Sl) (n : Int) (R : Value → TW → Prop) (w : TW) : denF Pg Dc.zigguratref02_Shr Go.Proofs.Try.f43 (Go.Proofs.Try.f43.body.getD .skip) [a.v, .int .i64 n] w R = Sh.zigguratref02_Shr a n R w := by kernel_rfl
theorem Ct.zigguratref02_Shr {a : Sl} {n : Int} {w : TW} {X : Nat → Prop} {K : Tel (fl [.one .slice]) (TW → Prop)} (h : Sh.zigguratref02_Shr a n (Rt X [.one .slice] K w) w.here) : Ct Pg F.zigguratref02_Shr [a.v, .int .i64 n] w X [.one .slice] K :=
  ct_of_den (D := Dc.zigguratref02_Shr) (fn := Go.Proofs.Try.f43) Xt_ok follows_ok (by kernel_rfl) (by kernel_rfl) (by kernel_rfl) (Eq.mpr (Eq.zigguratref02_Shr a n _ _) h)

def Sh.zigguratref02_Cmp (a : Sl) (b : Sl) (R : Value → TW → Prop) (w : TW) : Prop :=
cond (((a.n : Int) : Int) != (b.n : Int)) (
cond (decide (((a.n : Int) : Int) < (b.n : Int))) (
R (.int .i64 (-1)) w) (
R (.int .i64 1) w)) (
bnd (wi ((a.n : Int) - 1)) fun n =>
Jn [] (fun J0 =>
Lp [.int .i64] (fun (i : Int) w1 C0 =>
cond (decide ((i : Int) ≥ 0)) (
ixa a i 1 fun a1 =>
ldc (.int .u64) w1.drew a1 fun (v : Int) =>
ixa b i 1 fun a2 =>
ldc (.int .u64) w1.drew a2 fun (v1 : Int) =>
cond (decide ((v : Int) < v1)) (
R (.int .i64 (-1)) w1.drew) (
ixa a i 1 fun a3 =>
ldc (.int .u64) w1.drew.drew a3 fun (v2 : Int) =>
ixa b i 1 fun a4 =>
ldc (.int .u64) w1.drew.drew a4 fun (v3 : Int) =>
cond (decide ((v2 : Int) > v3)) (
R (.int .i64 1) w1.drew.drew) (
bnd (wi (i - 1)) fun n1 =>
C0 n1 w1.drew.drew))) (
J0 w1)) n w) fun  w2 =>
R (.int .i64 0) w2)
def Dc.zigguratref02_Cmp : Dc := { N := 41, va := [], vb := [], ann := [(2, 0, []), (3, 6, [(5, .one (.int .i64))])], ext := Xt }
theorem Eq.zigguratref02_Cmp (a : Sl) (b : Sl) (R : Value → TW → Prop) (w : TW) : denF Pg Dc.zigguratref02_Cmp Go.Proofs.Try.f51 (Go.Proofs.Try.f51.body.getD .skip) [a.v, b.v] w R = Sh.zigguratref02_Cmp a b R w := by kernel_rfl
theorem Ct.zigguratref02_Cmp {a : Sl} {b : Sl} {w : TW} {X : Nat → Prop} {K : Tel (fl [.one (.int .i64)]) (TW → Prop)} (h : Sh.zigguratref02_Cmp a b (Rt X [.one (.int .i64)] K w) w.here) : Ct Pg F.zigguratref02_Cmp [a.v, b.v] w X [.one (.int .i64)] K :=
  ct_of_den (D := Dc.zigguratref02_Cmp) (fn := Go.Proofs.Try.f51) Xt_ok follows_ok (by kernel_rfl) (by kernel_rfl) (by kernel_rfl) (Eq.mpr (Eq.zigguratref02_Cmp a b _ _) h)

def Sh.zigguratref02_Sub (a : Sl) (b : Sl) (R : Value → TW → Prop) (w : TW) : Prop :=
mks w 0 (a.n : Int) T.uint64 8 [.int .u64 0] fun s w1 =>
Jn [.slice] (fun J0 =>
Lp [.slice, .int .u64, .int .i64] (fun (out : Sl) (c : Int) (i : Int) w2 C0 =>
cond (decide ((i : Int) < (a.n : Int))) (
Jn [.int .u64] (fun J1 =>
cond (decide ((i : Int) < (b.n : Int))) (
ixa b i 1 fun a1 =>
ldc (.int .u64) w2 a1 fun (v : Int) =>
bnd (wu (c + v)) fun n =>
J1 n w2) (
J1 c w2)) fun (s1 : Int) w3 =>
ixa a i 1 fun a2 =>
ldc (.int .u64) w3 a2 fun (v1 : Int) =>
Jn [.slice, .int .u64] (fun J2 =>
cond (decide ((v1 : Int) ≥ s1)) (
ixa a i 1 fun a3 =>
ldc (.int .u64) w3 a3 fun (v2 : Int) =>
bnd (wu (v2 - s1)) fun n1 =>
nwb w3 [.int .u64 n1] T.uint64 fun b1 w4 =>
apd w4 T.uint64 1 8 out ⟨(some ⟨b1, 0, none⟩), 1, 1⟩ fun s2 w5 =>
J2 s2 0 w5) (
ixa a i 1 fun a4 =>
ldc (.int .u64) w3 a4 fun (v3 : Int) =>
bnd (wu (v3 + 4294967296)) fun n2 =>
bnd (wu (n2 - s1)) fun n3 =>
nwb w3 [.int .u64 n3] T.uint64 fun b2 w6 =>
apd w6 T.uint64 1 8 out ⟨(some ⟨b2, 0, none⟩), 1, 1⟩ fun s3 w7 =>
J2 s3 1 w7)) fun (out1 : Sl) (c1 : Int) w8 =>
bnd (wi (i + 1)) fun n4 =>
C0 out1 c1 n4 w8) (
J0 out w2)) s 0 0 w1) fun (out2 : Sl) w9 =>
cl Pg F.zigguratref02_norm [out2.v] w9 [.one .slice] fun (s4 : Sl) w10 =>
R (s4.v) w10
def Dc.zigguratref02_Sub : Dc := { N := 56, va := [], vb := [], ann := [(2, 0, [(5, .one .slice)]), (3, 4, [(5, .one .slice), (6, .one (.int .u64)), (7, .one (.int .i64))]), (1, 8, [(8, .one (.int .u64))]), (1, 10, [(5, .one .slice), (6, .one (.int .u64))])], ext := Xt }
theorem Eq.zigguratref02_Sub (a : Sl) (b : Sl) (R : Value → TW → Prop) (w : TW) : denF Pg Dc.zigguratref02_Sub Go.Proofs.Try.f52 (Go.Proofs.Try.f52.body.getD .skip) [a.v, b.v] w R = Sh.zigguratref02_Sub a b R w := by kernel_rfl
theorem Ct.zigguratref02_Sub {a : Sl} {b : Sl} {w : TW} {X : Nat → Prop} {K : Tel (fl [.one .slice]) (TW → Prop)} (h : Sh.zigguratref02_Sub a b (Rt X [.one .slice] K w) w.here) : Ct Pg F.zigguratref02_Sub [a.v, b.v] w X [.one .slice] K :=
  ct_of_den (D := Dc.zigguratref02_Sub) (fn := Go.Proofs.Try.f52) Xt_ok follows_ok (by kernel_rfl) (by kernel_rfl) (by kernel_rfl) (Eq.mpr (Eq.zigguratref02_Sub a b _ _) h)

def Sh.zigguratref02_DivMod (a : Sl) (d : Sl) (R : Value → TW → Prop) (w : TW) : Prop :=
cl Pg F.zigguratref02_Cmp [a.v, d.v] w [.one (.int .i64)] fun (r : Int) w1 =>
cond (decide ((r : Int) < 0)) (
R (.tuple #[.slice none 0 0, a.v]) w1) (
bnd (wi ((d.n : Int) + 1)) fun n =>
mks w1 n n T.uint64 8 [.int .u64 0] fun s w2 =>
mks w2 (a.n : Int) (a.n : Int) T.uint64 8 [.int .u64 0] fun s1 w3 =>
cl Pg F.zigguratref02_Bits [a.v] w3 [.one (.int .i64)] fun (r1 : Int) w4 =>
bnd (wi (r1 - 1)) fun n1 =>
Jn [] (fun J0 =>
Lp [.int .i64] (fun (i : Int) w5 C0 =>
cond (decide ((i : Int) ≥ 0)) (
cl Pg F.zigguratref02_bit [a.v, .int .i64 i] w5 [.one (.int .u64)] fun (r2 : Int) w6 =>
cl Pg F.zigguratref02_twice [s.v, .int .u64 r2, d.v] w6 [.one .bool] fun (ok : Bool) w7 =>
Jn [] (fun J1 =>
cond ok (
divK .i64 i 32 fun n2 =>
ixa s1 n2 1 fun a1 =>
ldc (.int .u64) w7 a1 fun (v : Int) =>
remK i 32 fun n3 =>
bnd (wu (n3)) fun n4 =>
shlK .u64 1 n4 fun n5 =>
bnd (bits2 .or .u64 v n5) fun n6 =>
ixa s1 n2 1 fun a2 =>
stc w7 a2 (.int .u64 n6) fun w8 =>
J1 w8) (
J1 w7)) fun  w9 =>
bnd (wi (i - 1)) fun n7 =>
C0 n7 w9) (
J0 w5)) n1 w4) fun  w10 =>
cl Pg F.zigguratref02_norm [s1.v] w10 [.one .slice] fun (s2 : Sl) w11 =>
cl Pg F.zigguratref02_norm [s.v] w11 [.one .slice] fun (s3 : Sl) w12 =>
R (.tuple #[s2.v, s3.v]) w12)
def Dc.zigguratref02_DivMod : Dc := { N := 49, va := [], vb := [], ann := [(2, 0, []), (3, 6, [(8, .one (.int .i64))]), (1, 9, [])], ext := Xt }
theorem Eq.zigguratref02_DivMod (a : Sl) (d : Sl) (R : Value → TW → Prop) (w : TW) : denF Pg Dc.zigguratref02_DivMod Go.Proofs.Try.f61 (Go.Proofs.Try.f61.body.getD .skip) [a.v, d.v] w R = Sh.zigguratref02_DivMod a d R w := by kernel_rfl
theorem Ct.zigguratref02_DivMod {a : Sl} {d : Sl} {w : TW} {X : Nat → Prop} {K : Tel (fl [.one .slice, .one .slice]) (TW → Prop)} (h : Sh.zigguratref02_DivMod a d (Rt X [.one .slice, .one .slice] K w) w.here) : Ct Pg F.zigguratref02_DivMod [a.v, d.v] w X [.one .slice, .one .slice] K :=
  ct_of_den (D := Dc.zigguratref02_DivMod) (fn := Go.Proofs.Try.f61) Xt_ok follows_ok (by kernel_rfl) (by kernel_rfl) (by kernel_rfl) (Eq.mpr (Eq.zigguratref02_DivMod a d _ _) h)

def Sh.zigguratref02_To (a : Sl) (R : Value → TW → Prop) (w : TW) : Prop :=
Jn [.slice] (fun J0 =>
Lp [.slice, .int .i64] (fun (out : Sl) (i : Int) w1 C0 =>
cond (decide ((i : Int) < (a.n : Int))) (
ixa a i 1 fun a1 =>
ldc (.int .u64) w1 a1 fun (v : Int) =>
bnd (wi (i + 1)) fun n =>
Jn [.int .u64] (fun J1 =>
cond (decide ((n : Int) < (a.n : Int))) (
bnd (wi (i + 1)) fun n1 =>
ixa a n1 1 fun a2 =>
ldc (.int .u64) w1 a2 fun (v1 : Int) =>
bnd (wu (v1 * 4294967296)) fun n2 =>
bnd (wu (v + n2)) fun n3 =>
J1 n3 w1) (
J1 v w1)) fun (y : Int) w2 =>
nwb w2 [.int .u64 y] T.uint64 fun b w3 =>
apd w3 T.uint64 1 8 out ⟨(some ⟨b, 0, none⟩), 1, 1⟩ fun s w4 =>
bnd (wi (i + 2)) fun n4 =>
C0 s n4 w4) (
J0 out w1)) Sl.nil 0 w) fun (out1 : Sl) w5 =>
Jn [.slice] (fun J2 =>
Lp [.slice] (fun (out2 : Sl) w6 C1 =>
Jn [.bool] (fun J3 =>
cond (decide (((out2.n : Int) : Int) > 0)) (
bnd (wi ((out2.n : Int) - 1)) fun n5 =>
ixa out2 n5 1 fun a3 =>
ldc (.int .u64) w6 a3 fun (v2 : Int) =>
J3 ((v2 : Int) == 0) w6) (
J3 false w6)) fun (x : Bool) w7 =>
cond x (
bnd (wi ((out2.n : Int) - 1)) fun n6 =>
slc out2 0 n6 1 fun s1 =>
C1 s1 w7) (
J2 out2 w7)) out1 w5) fun (out3 : Sl) w8 =>
R (out3.v) w8
def Dc.zigguratref02_To : Dc := { N := 51, va := [], vb := [], ann := [(2, 0, [(3, .one .slice)]), (3, 3, [(3, .one .slice), (4, .one (.int .i64))]), (1, 7, [(5, .one (.int .u64))]), (2, 2, [(3, .one .slice)]), (3, 9, [(3, .one .slice)]), (0, 9, [(44, .one .bool)])], ext := Xt }
theorem Eq.zigguratref02_To (a : Sl) (R : Value → TW → Prop) (w : TW) : denF Pg Dc.zigguratref02_To Go.Proofs.Try.f65 (Go.Proofs.Try.f65.body.getD .skip) [a.v] w R = Sh.zigguratref02_To a R w := by kernel_rfl
theorem Ct.zigguratref02_To {a : Sl} {w : TW} {X : Nat → Prop} {K : Tel (fl [.one .slice]) (TW → Prop)} (h : Sh.zigguratref02_To a (Rt X [.one .slice] K w) w.here) : Ct Pg F.zigguratref02_To [a.v] w X [.one .slice] K :=
  ct_of_den (D := Dc.zigguratref02_To) (fn := Go.Proofs.Try.f65) Xt_ok follows_ok (by kernel_rfl) (by kernel_rfl) (by kernel_rfl) (Eq.mpr (Eq.zigguratref02_To a _ _) h)

def Sh.zigguratref02_norm (a : Sl) (R : Value → TW → Prop) (w : TW) : Prop :=
Jn [.int .i64] (fun J0 =>
Lp [.int .i64] (fun (k : Int) w1 C0 =>
Jn [.bool] (fun J1 =>
cond (decide ((k : Int) > 0)) (
bnd (wi (k - 1)) fun n =>
ixa a n 1 fun a1 =>
ldc (.int .u64) w1 a1 fun (v : Int) =>
J1 ((v : Int) == 0) w1) (
J1 false w1)) fun (x : Bool) w2 =>
cond x (
bnd (wi (k - 1)) fun n1 =>
C0 n1 w2) (
J0 k w2)) (a.n : Int) w) fun (k1 : Int) w3 =>
slc a 0 k1 1 fun s =>
R (s.v) w3
def Dc.zigguratref02_norm : Dc := { N := 21, va := [], vb := [], ann := [(2, 0, [(3, .one (.int .i64))]), (3, 2, [(3, .one (.int .i64))]), (0, 2, [(15, .one .bool)])], ext := Xt }
theorem Eq.zigguratref02_norm (a : Sl) (R : Value → TW → Prop) (w : TW) : denF Pg Dc.zigguratref02_norm Go.Proofs.Try.f66 (Go.Proofs.Try.f66.body.getD .skip) [a.v] w R = Sh.zigguratref02_norm a R w := by kernel_rfl
theorem Ct.zigguratref02_norm {a : Sl} {w : TW} {X : Nat → Prop} {K : Tel (fl [.one .slice]) (TW → Prop)} (h : Sh.zigguratref02_norm a (Rt X [.one .slice] K w) w.here) : Ct Pg F.zigguratref02_norm [a.v] w X [.one .slice] K :=
  ct_of_den (D := Dc.zigguratref02_norm) (fn := Go.Proofs.Try.f66) Xt_ok follows_ok (by kernel_rfl) (by kernel_rfl) (by kernel_rfl) (Eq.mpr (Eq.zigguratref02_norm a _ _) h)

def Sh.zigguratref02_From (a : Sl) (R : Value → TW → Prop) (w : TW) : Prop :=
bnd (wi (2 * (a.n : Int))) fun n =>
mks w 0 n T.uint64 8 [.int .u64 0] fun s w1 =>
Jn [.slice] (fun J0 =>
Lp [.slice, .int .i64] (fun (out : Sl) (i : Int) w2 C0 =>
cond (decide ((i : Int) < (a.n : Int))) (
ixa a i 1 fun a1 =>
ldc (.int .u64) w2.drew a1 fun (v : Int) =>
remK v 4294967296 fun n1 =>
ixa a i 1 fun a2 =>
ldc (.int .u64) w2.drew a2 fun (v1 : Int) =>
divK .u64 v1 4294967296 fun n2 =>
nwb w2.drew [.int .u64 n1, .int .u64 n2] T.uint64 fun b w3 =>
hld w3 [(a2, .int .u64 v1), (a1, .int .u64 v)] <|
apd w3 T.uint64 1 8 out ⟨(some ⟨b, 0, none⟩), 2, 2⟩ fun s1 w4 =>
hld w4 [(a2, .int .u64 v1), (a1, .int .u64 v)] <|
bnd (wi (i + 1)) fun n3 =>
C0 s1 n3 w4) (
J0 out w2)) s 0 w1) fun (out1 : Sl) w5 =>
cl Pg F.zigguratref02_norm [out1.v] w5 [.one .slice] fun (s2 : Sl) w6 =>
R (s2.v) w6
def Dc.zigguratref02_From : Dc := { N := 30, va := [], vb := [], ann := [(2, 0, [(3, .one .slice)]), (3, 3, [(3, .one .slice), (4, .one (.int .i64))])], ext := Xt }
theorem Eq.zigguratref02_From (a : Sl) (R : Value → TW → Prop) (w : TW) : denF Pg Dc.zigguratref02_From Go.Proofs.Try.f67 (Go.Proofs.Try.f67.body.getD .skip) [a.v] w R = Sh.zigguratref02_From a R w := by kernel_rfl
theorem Ct.zigguratref02_From {a : Sl} {w : TW} {X : Nat → Prop} {K : Tel (fl [.one .slice]) (TW → Prop)} (h : Sh.zigguratref02_From a (Rt X [.one .slice] K w) w.here) : Ct Pg F.zigguratref02_From [a.v] w X [.one .slice] K :=
  ct_of_den (D := Dc.zigguratref02_From) (fn := Go.Proofs.Try.f67) Xt_ok follows_ok (by kernel_rfl) (by kernel_rfl) (by kernel_rfl) (Eq.mpr (Eq.zigguratref02_From a _ _) h)

def Sh.zigguratref02_Bits (a : Sl) (R : Value → TW → Prop) (w : TW) : Prop :=
cond (((a.n : Int) : Int) == 0) (
R (.int .i64 0) w) (
bnd (wi ((a.n : Int) - 1)) fun n =>
bnd (wi (32 * n)) fun n1 =>
bnd (wi ((a.n : Int) - 1)) fun n2 =>
ixa a n2 1 fun a1 =>
ldc (.int .u64) w a1 fun (v : Int) =>
Jn [.int .i64] (fun J0 =>
Lp [.int .i64, .int .u64] (fun (n3 : Int) (y : Int) w1 C0 =>
cond (decide ((y : Int) > 0)) (
bnd (wi (n3 + 1)) fun n4 =>
divK .u64 y 2 fun n5 =>
C0 n4 n5 w1) (
J0 n3 w1)) n1 v w) fun (n6 : Int) w2 =>
R (.int .i64 n6) w2)
def Dc.zigguratref02_Bits : Dc := { N := 25, va := [], vb := [], ann := [(2, 0, [(3, .one (.int .i64))]), (3, 5, [(3, .one (.int .i64)), (4, .one (.int .u64))])], ext := Xt }
theorem Eq.zigguratref02_Bits (a : Sl) (R : Value → TW → Prop) (w : TW) : denF Pg Dc.zigguratref02_Bits Go.Proofs.Try.f73 (Go.Proofs.Try.f73.body.getD .skip) [a.v] w R = Sh.zigguratref02_Bits a R w := by kernel_rfl
theorem Ct.zigguratref02_Bits {a : Sl} {w : TW} {X : Nat → Prop} {K : Tel (fl [.one (.int .i64)]) (TW → Prop)} (h : Sh.zigguratref02_Bits a (Rt X [.one (.int .i64)] K w) w.here) : Ct Pg F.zigguratref02_Bits [a.v] w X [.one (.int .i64)] K :=
  ct_of_den (D := Dc.zigguratref02_Bits) (fn := Go.Proofs.Try.f73) Xt_ok follows_ok (by kernel_rfl) (by kernel_rfl) (by kernel_rfl) (Eq.mpr (Eq.zigguratref02_Bits a _ _) h)

def Sh.zigguratref02_twice (r : Sl) (b : Int) (d : Sl) (R : Value → TW → Prop) (w : TW) : Prop :=
Jn [] (fun J0 =>
Lp [.int .u64, .int .i64] (fun (b1 : Int) (i : Int) w1 C0 =>
cond (decide ((i : Int) < (r.n : Int))) (
ixa r i 1 fun a =>
ldc (.int .u64) w1 a fun (v : Int) =>
bnd (wu (2 * v)) fun n =>
bnd (wu (n + b1)) fun n1 =>
remK n1 4294967296 fun n2 =>
ixa r i 1 fun a1 =>
stc w1 a1 (.int .u64 n2) fun w2 =>
divK .u64 n1 4294967296 fun n3 =>
bnd (wi (i + 1)) fun n4 =>
C0 n3 n4 w2) (
J0 w1)) b 0 w) fun  w3 =>
bnd (wi ((r.n : Int) - 1)) fun n5 =>
Jn [.bool] (fun J1 =>
Lp [.bool, .int .i64] (fun (more : Bool) (i1 : Int) w4 C1 =>
cond (decide ((i1 : Int) ≥ 0)) (
Jn [.int .u64] (fun J2 =>
cond (decide ((i1 : Int) < (d.n : Int))) (
ixa d i1 1 fun a2 =>
ldc (.int .u64) w4 a2 fun (v1 : Int) =>
J2 v1 w4) (
J2 0 w4)) fun (y : Int) w5 =>
ixa r i1 1 fun a3 =>
ldc (.int .u64) w5 a3 fun (v2 : Int) =>
cond ((v2 : Int) != y) (
ixa r i1 1 fun a4 =>
ldc (.int .u64) w5 a4 fun (v3 : Int) =>
J1 (decide ((v3 : Int) > y)) w5) (
bnd (wi (i1 - 1)) fun n6 =>
C1 more n6 w5)) (
J1 more w4)) true n5 w3) fun (more1 : Bool) w6 =>
cond (!more1) (
R (.bool false) w6) (
Jn [] (fun J3 =>
Lp [.int .u64, .int .i64] (fun (c : Int) (i2 : Int) w7 C2 =>
cond (decide ((i2 : Int) < (r.n : Int))) (
Jn [.int .u64] (fun J4 =>
cond (decide ((i2 : Int) < (d.n : Int))) (
ixa d i2 1 fun a5 =>
ldc (.int .u64) w7 a5 fun (v4 : Int) =>
bnd (wu (c + v4)) fun n7 =>
J4 n7 w7) (
J4 c w7)) fun (s : Int) w8 =>
ixa r i2 1 fun a6 =>
ldc (.int .u64) w8 a6 fun (v5 : Int) =>
Jn [.int .u64] (fun J5 =>
cond (decide ((v5 : Int) ≥ s)) (
ixa r i2 1 fun a7 =>
ldc (.int .u64) w8 a7 fun (v6 : Int) =>
bnd (wu (v6 - s)) fun n8 =>
ixa r i2 1 fun a8 =>
stc w8 a8 (.int .u64 n8) fun w9 =>
J5 0 w9) (
ixa r i2 1 fun a9 =>
ldc (.int .u64) w8 a9 fun (v7 : Int) =>
bnd (wu (4294967296 - s)) fun n9 =>
bnd (wu (v7 + n9)) fun n10 =>
ixa r i2 1 fun a10 =>
stc w8 a10 (.int .u64 n10) fun w10 =>
J5 1 w10)) fun (c1 : Int) w11 =>
bnd (wi (i2 + 1)) fun n11 =>
C2 c1 n11 w11) (
J3 w7)) 0 0 w6) fun  w12 =>
R (.bool true) w12)
def Dc.zigguratref02_twice : Dc := { N := 102, va := [], vb := [], ann := [(2, 0, []), (3, 2, [(1, .one (.int .u64)), (7, .one (.int .i64))]), (2, 2, [(9, .one .bool)]), (3, 9, [(9, .one .bool), (10, .one (.int .i64))]), (1, 13, [(11, .one (.int .u64))]), (2, 4, []), (3, 20, [(12, .one (.int .u64)), (13, .one (.int .i64))]), (1, 24, [(14, .one (.int .u64))]), (1, 26, [(12, .one (.int .u64))])], ext := Xt }
theorem Eq.zigguratref02_twice (r : Sl) (b : Int) (d : Sl) (R : Value → TW → Prop) (w : TW) : denF Pg Dc.zigguratref02_twice Go.Proofs.Try.f74 (Go.Proofs.Try.f74.body.getD .skip) [r.v, .int .u64 b, d.v] w R = Sh.zigguratref02_twice r b d R w := by kernel_rfl
theorem Ct.zigguratref02_twice {r : Sl} {b : Int} {d : Sl} {w : TW} {X : Nat → Prop} {K : Tel (fl [.one .bool]) (TW → Prop)} (h : Sh.zigguratref02_twice r b d (Rt X [.one .bool] K w) w.here) : Ct Pg F.zigguratref02_twice [r.v, .int .u64 b, d.v] w X [.one .bool] K :=
  ct_of_den (D := Dc.zigguratref02_twice) (fn := Go.Proofs.Try.f74) Xt_ok follows_ok (by kernel_rfl) (by kernel_rfl) (by kernel_rfl) (Eq.mpr (Eq.zigguratref02_twice r b d _ _) h)

def Sh.zigguratref02_bit (a : Sl) (i : Int) (R : Value → TW → Prop) (w : TW) : Prop :=
divK .i64 i 32 fun n =>
ixa a n 1 fun a1 =>
ldc (.int .u64) w a1 fun (v : Int) =>
remK i 32 fun n1 =>
bnd (wu (n1)) fun n2 =>
shrK .u64 v n2 fun n3 =>
bnd (bits2 .and .u64 n3 1) fun n4 =>
R (.int .u64 n4) w
def Dc.zigguratref02_bit : Dc := { N := 15, va := [], vb := [], ann := [], ext := Xt }
theorem Eq.zigguratref02_bit (a : Sl) (i : Int) (R : Value → TW → Prop) (w : TW) : denF Pg Dc.zigguratref02_bit Go.Proofs.Try.f75 (Go.Proofs.Try.f75.body.getD .skip) [a.v, .int .i64 i] w R = Sh.zigguratref02_bit a i R w := by kernel_rfl
theorem Ct.zigguratref02_bit {a : Sl} {i : Int} {w : TW} {X : Nat → Prop} {K : Tel (fl [.one (.int .u64)]) (TW → Prop)} (h : Sh.zigguratref02_bit a i (Rt X [.one (.int .u64)] K w) w.here) : Ct Pg F.zigguratref02_bit [a.v, .int .i64 i] w X [.one (.int .u64)] K :=
  ct_of_den (D := Dc.zigguratref02_bit) (fn := Go.Proofs.Try.f75) Xt_ok follows_ok (by kernel_rfl) (by kernel_rfl) (by kernel_rfl) (Eq.mpr (Eq.zigguratref02_bit a i _ _) h)
end Go.Proofs.Ythhohfgpaihngaa.Zg
end
