/- What each function of Go's package 'bits' does, step by step (its reading), and that its contract follows from that. Written by genseat.py. -/
import Derived.Test.YthhohfgpaihngaaZgX
set_option linter.unusedVariables false
set_option linter.unusedSimpArgs false
set_option linter.unnecessarySimpa false
set_option maxRecDepth 100000
namespace Go.Proofs.Ythhohfgpaihngaa.Zg
def Sh.bits_Mul64 (x : Int) (y : Int) (R : Value → TW → Prop) (w : TW) : Prop :=
bnd (bits2 .and .u64 x 4294967295) fun n =>
shrK .u64 x 32 fun n1 =>
bnd (bits2 .and .u64 y 4294967295) fun n2 =>
shrK .u64 y 32 fun n3 =>
bnd (wu (n * n2)) fun n4 =>
bnd (wu (n1 * n2)) fun n5 =>
shrK .u64 n4 32 fun n6 =>
bnd (wu (n5 + n6)) fun n7 =>
bnd (bits2 .and .u64 n7 4294967295) fun n8 =>
shrK .u64 n7 32 fun n9 =>
bnd (wu (n * n3)) fun n10 =>
bnd (wu (n8 + n10)) fun n11 =>
bnd (wu (n1 * n3)) fun n12 =>
bnd (wu (n12 + n9)) fun n13 =>
shrK .u64 n11 32 fun n14 =>
bnd (wu (n13 + n14)) fun n15 =>
bnd (wu (x * y)) fun n16 =>
R (.tuple #[.int .u64 n15, .int .u64 n16]) w
def Dc.bits_Mul64 : Dc := { N := 51, va := [], vb := [], ann := [], ext := Xt }
theorem Eq.bits_Mul64 (x : Int) (y : Int) (R : Value → TW → Prop) (w : TW) : denF Pg Dc.bits_Mul64 Go.Proofs.Try.f63 (Go.Proofs.Try.f63.body.getD .skip) [.int .u64 x, .int .u64 y] w R = Sh.bits_Mul64 x y R w := by kernel_rfl
theorem Ct.bits_Mul64 {x : Int} {y : Int} {w : TW} {X : Nat → Prop} {K : Tel (fl [.one (.int .u64), .one (.int .u64)]) (TW → Prop)} (h : Sh.bits_Mul64 x y (Rt X [.one (.int .u64), .one (.int .u64)] K w) w.here) : Ct Pg F.bits_Mul64 [.int .u64 x, .int .u64 y] w X [.one (.int .u64), .one (.int .u64)] K :=
  ct_of_den (D := Dc.bits_Mul64) (fn := Go.Proofs.Try.f63) Xt_ok follows_ok (by kernel_rfl) (by kernel_rfl) (by kernel_rfl) (Eq.mpr (Eq.bits_Mul64 x y _ _) h)

def Sh.bits_Div64 (hi : Int) (lo : Int) (y : Int) (R : Value → TW → Prop) (w : TW) : Prop :=
Jn [] (fun J0 =>
cond ((y : Int) == 0) (
False) (
J0 w)) fun  w1 =>
Jn [] (fun J1 =>
cond (decide ((y : Int) ≤ hi)) (
False) (
J1 w1)) fun  w2 =>
cond ((hi : Int) == 0) (
divK .u64 lo y fun n =>
remK lo y fun n1 =>
R (.tuple #[.int .u64 n, .int .u64 n1]) w2.drew) (
cl Pg F.bits_LeadingZeros64 [.int .u64 y] w2 [.one (.int .i64)] fun (r : Int) w3 =>
bnd (wu (r)) fun n2 =>
shlK .u64 y n2 fun n3 =>
shrK .u64 n3 32 fun n4 =>
bnd (bits2 .and .u64 n3 4294967295) fun n5 =>
shlK .u64 hi n2 fun n6 =>
bnd (wu (64 - n2)) fun n7 =>
shrK .u64 lo n7 fun n8 =>
bnd (bits2 .or .u64 n6 n8) fun n9 =>
shlK .u64 lo n2 fun n10 =>
shrK .u64 n10 32 fun n11 =>
bnd (bits2 .and .u64 n10 4294967295) fun n12 =>
divK .u64 n9 n4 fun n13 =>
bnd (wu (n13 * n4)) fun n14 =>
bnd (wu (n9 - n14)) fun n15 =>
Jn [.int .u64] (fun J2 =>
Lp [.int .u64, .int .u64] (fun (q1 : Int) (rhat : Int) w4 C0 =>
Jn [.bool] (fun J3 =>
cond (decide ((q1 : Int) ≥ 4294967296)) (
J3 true w4) (
bnd (wu (q1 * n5)) fun n16 =>
bnd (wu (4294967296 * rhat)) fun n17 =>
bnd (wu (n17 + n11)) fun n18 =>
J3 (decide ((n16 : Int) > n18)) w4)) fun (x : Bool) w5 =>
cond x (
bnd (wu (q1 - 1)) fun n19 =>
bnd (wu (rhat + n4)) fun n20 =>
cond (decide ((n20 : Int) ≥ 4294967296)) (
J2 n19 w5) (
C0 n19 n20 w5)) (
J2 q1 w5)) n13 n15 w3) fun (q11 : Int) w6 =>
bnd (wu (n9 * 4294967296)) fun n21 =>
bnd (wu (n21 + n11)) fun n22 =>
bnd (wu (q11 * n3)) fun n23 =>
bnd (wu (n22 - n23)) fun n24 =>
divK .u64 n24 n4 fun n25 =>
bnd (wu (n25 * n4)) fun n26 =>
bnd (wu (n24 - n26)) fun n27 =>
Jn [.int .u64] (fun J4 =>
Lp [.int .u64, .int .u64] (fun (rhat1 : Int) (q0 : Int) w7 C1 =>
Jn [.bool] (fun J5 =>
cond (decide ((q0 : Int) ≥ 4294967296)) (
J5 true w7) (
bnd (wu (q0 * n5)) fun n28 =>
bnd (wu (4294967296 * rhat1)) fun n29 =>
bnd (wu (n29 + n12)) fun n30 =>
J5 (decide ((n28 : Int) > n30)) w7)) fun (x1 : Bool) w8 =>
cond x1 (
bnd (wu (q0 - 1)) fun n31 =>
bnd (wu (rhat1 + n4)) fun n32 =>
cond (decide ((n32 : Int) ≥ 4294967296)) (
J4 n31 w8) (
C1 n32 n31 w8)) (
J4 q0 w8)) n27 n25 w6) fun (q01 : Int) w9 =>
bnd (wu (q11 * 4294967296)) fun n33 =>
bnd (wu (n33 + q01)) fun n34 =>
bnd (wu (n24 * 4294967296)) fun n35 =>
bnd (wu (n35 + n12)) fun n36 =>
bnd (wu (q01 * n3)) fun n37 =>
bnd (wu (n36 - n37)) fun n38 =>
shrK .u64 n38 n2 fun n39 =>
R (.tuple #[.int .u64 n34, .int .u64 n39]) w9)
def Dc.bits_Div64 : Dc := { N := 135, va := [], vb := [], ann := [(1, 2, []), (1, 4, []), (2, 0, [(15, .one (.int .u64))]), (3, 17, [(15, .one (.int .u64)), (16, .one (.int .u64))]), (0, 17, [(78, .one .bool)]), (2, 2, [(18, .one (.int .u64))]), (3, 24, [(16, .one (.int .u64)), (18, .one (.int .u64))]), (0, 24, [(113, .one .bool)])], ext := Xt }
theorem Eq.bits_Div64 (hi : Int) (lo : Int) (y : Int) (R : Value → TW → Prop) (w : TW) : denF Pg Dc.bits_Div64 Go.Proofs.Try.f72 (Go.Proofs.Try.f72.body.getD .skip) [.int .u64 hi, .int .u64 lo, .int .u64 y] w R = Sh.bits_Div64 hi lo y R w := by kernel_rfl
theorem Ct.bits_Div64 {hi : Int} {lo : Int} {y : Int} {w : TW} {X : Nat → Prop} {K : Tel (fl [.one (.int .u64), .one (.int .u64)]) (TW → Prop)} (h : Sh.bits_Div64 hi lo y (Rt X [.one (.int .u64), .one (.int .u64)] K w) w.here) : Ct Pg F.bits_Div64 [.int .u64 hi, .int .u64 lo, .int .u64 y] w X [.one (.int .u64), .one (.int .u64)] K :=
  ct_of_den (D := Dc.bits_Div64) (fn := Go.Proofs.Try.f72) Xt_ok follows_ok (by kernel_rfl) (by kernel_rfl) (by kernel_rfl) (Eq.mpr (Eq.bits_Div64 hi lo y _ _) h)

def Sh.bits_LeadingZeros64 (x : Int) (R : Value → TW → Prop) (w : TW) : Prop :=
cl Pg F.bits_Len64 [.int .u64 x] w [.one (.int .i64)] fun (r : Int) w1 =>
bnd (wi (64 - r)) fun n =>
R (.int .i64 n) w1
def Dc.bits_LeadingZeros64 : Dc := { N := 6, va := [], vb := [], ann := [], ext := Xt }
theorem Eq.bits_LeadingZeros64 (x : Int) (R : Value → TW → Prop) (w : TW) : denF Pg Dc.bits_LeadingZeros64 Go.Proofs.Try.f77 (Go.Proofs.Try.f77.body.getD .skip) [.int .u64 x] w R = Sh.bits_LeadingZeros64 x R w := by kernel_rfl
theorem Ct.bits_LeadingZeros64 {x : Int} {w : TW} {X : Nat → Prop} {K : Tel (fl [.one (.int .i64)]) (TW → Prop)} (h : Sh.bits_LeadingZeros64 x (Rt X [.one (.int .i64)] K w) w.here) : Ct Pg F.bits_LeadingZeros64 [.int .u64 x] w X [.one (.int .i64)] K :=
  ct_of_den (D := Dc.bits_LeadingZeros64) (fn := Go.Proofs.Try.f77) Xt_ok follows_ok (by kernel_rfl) (by kernel_rfl) (by kernel_rfl) (Eq.mpr (Eq.bits_LeadingZeros64 x _ _) h)

def Sh.bits_Len64 (x : Int) (R : Value → TW → Prop) (w : TW) : Prop :=
Jn [.int .u64, .int .i64] (fun J0 =>
cond (decide ((x : Int) ≥ 4294967296)) (
shrK .u64 x 32 fun n =>
J0 n 32 w) (
J0 x 0 w)) fun (x1 : Int) (n1 : Int) w1 =>
Jn [.int .u64, .int .i64] (fun J1 =>
cond (decide ((x1 : Int) ≥ 65536)) (
shrK .u64 x1 16 fun n2 =>
bnd (wi (n1 + 16)) fun n3 =>
J1 n2 n3 w1) (
J1 x1 n1 w1)) fun (x2 : Int) (n4 : Int) w2 =>
Jn [.int .u64, .int .i64] (fun J2 =>
cond (decide ((x2 : Int) ≥ 256)) (
shrK .u64 x2 8 fun n5 =>
bnd (wi (n4 + 8)) fun n6 =>
J2 n5 n6 w2) (
J2 x2 n4 w2)) fun (x3 : Int) (n7 : Int) w3 =>
bnd (IntKind.u8.wrap (x3)) fun n8 =>
ixs (⟨#[0, 1, 2, 2, 3, 3, 3, 3, 4, 4, 4, 4, 4, 4, 4, 4, 5, 5, 5, 5, 5, 5, 5, 5, 5, 5, 5, 5, 5, 5, 5, 5, 6, 6, 6, 6, 6, 6, 6, 6, 6, 6, 6, 6, 6, 6, 6, 6, 6, 6, 6, 6, 6, 6, 6, 6, 6, 6, 6, 6, 6, 6, 6, 6, 7, 7, 7, 7, 7, 7, 7, 7, 7, 7, 7, 7, 7, 7, 7, 7, 7, 7, 7, 7, 7, 7, 7, 7, 7, 7, 7, 7, 7, 7, 7, 7, 7, 7, 7, 7, 7, 7, 7, 7, 7, 7, 7, 7, 7, 7, 7, 7, 7, 7, 7, 7, 7, 7, 7, 7, 7, 7, 7, 7, 7, 7, 7, 7, 8, 8, 8, 8, 8, 8, 8, 8, 8, 8, 8, 8, 8, 8, 8, 8, 8, 8, 8, 8, 8, 8, 8, 8, 8, 8, 8, 8, 8, 8, 8, 8, 8, 8, 8, 8, 8, 8, 8, 8, 8, 8, 8, 8, 8, 8, 8, 8, 8, 8, 8, 8, 8, 8, 8, 8, 8, 8, 8, 8, 8, 8, 8, 8, 8, 8, 8, 8, 8, 8, 8, 8, 8, 8, 8, 8, 8, 8, 8, 8, 8, 8, 8, 8, 8, 8, 8, 8, 8, 8, 8, 8, 8, 8, 8, 8, 8, 8, 8, 8, 8, 8, 8, 8, 8, 8, 8, 8, 8, 8, 8, 8, 8, 8, 8, 8, 8, 8, 8, 8, 8, 8, 8, 8, 8, 8, 8, 8]⟩ : ByteArray) n8 fun n9 =>
bnd (wi (n9)) fun n10 =>
bnd (wi (n7 + n10)) fun n11 =>
R (.int .i64 n11) w3
def Dc.bits_Len64 : Dc := { N := 25, va := [], vb := [], ann := [(1, 2, [(0, .one (.int .u64)), (2, .one (.int .i64))]), (1, 5, [(0, .one (.int .u64)), (2, .one (.int .i64))]), (1, 8, [(0, .one (.int .u64)), (2, .one (.int .i64))])], ext := Xt }
theorem Eq.bits_Len64 (x : Int) (R : Value → TW → Prop) (w : TW) : denF Pg Dc.bits_Len64 Go.Proofs.Try.f79 (Go.Proofs.Try.f79.body.getD .skip) [.int .u64 x] w R = Sh.bits_Len64 x R w := by kernel_rfl
theorem Ct.bits_Len64 {x : Int} {w : TW} {X : Nat → Prop} {K : Tel (fl [.one (.int .i64)]) (TW → Prop)} (h : Sh.bits_Len64 x (Rt X [.one (.int .i64)] K w) w.here) : Ct Pg F.bits_Len64 [.int .u64 x] w X [.one (.int .i64)] K :=
  ct_of_den (D := Dc.bits_Len64) (fn := Go.Proofs.Try.f79) Xt_ok follows_ok (by kernel_rfl) (by kernel_rfl) (by kernel_rfl) (Eq.mpr (Eq.bits_Len64 x _ _) h)
end Go.Proofs.Ythhohfgpaihngaa.Zg
