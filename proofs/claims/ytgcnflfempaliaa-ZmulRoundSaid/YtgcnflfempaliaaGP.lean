/- A part of the proofs of this seat's laws: words, lemmas or contracts of its functions. -/
import Derived.Test.YtgcnflfempaliaaGC
set_option linter.unusedVariables false
set_option linter.unusedSimpArgs false
set_option linter.unnecessarySimpa false
section
set_option maxRecDepth 100000
namespace Go.Proofs.Ytgcnflfempaliaa.Zg
def Sh.api_Nat_Bits (n : Sl) (R : Value → TW → Prop) (w : TW) : Prop :=
cl Pg F.api_Nat_Len [n.v] w [.one (.int .i64)] fun (r : Int) w1 =>
cond ((r : Int) == 0) (
R (.int .i64 0) w1) (
bnd (wi (r - 1)) fun n1 =>
bnd (wi (64 * n1)) fun n2 =>
bnd (wi (r - 1)) fun n3 =>
ixa n n3 1 fun a =>
ldc (.int .u64) w1 a fun (v : Int) =>
cl Pg F.bits_Len64 [.int .u64 v] w1 [.one (.int .i64)] fun (r1 : Int) w2 =>
bnd (wi (n2 + r1)) fun n4 =>
R (.int .i64 n4) w2)
def Dc.api_Nat_Bits : Dc := { N := 18, va := [], vb := [], ann := [], ext := Xt }
theorem Eq.api_Nat_Bits (n : Sl) (R : Value → TW → Prop) (w : TW) : denF Pg Dc.api_Nat_Bits Go.Proofs.Try.f55 (Go.Proofs.Try.f55.body.getD .skip) [n.v] w R = Sh.api_Nat_Bits n R w := by kernel_rfl
theorem Ct.api_Nat_Bits {n : Sl} {w : TW} {X : Nat → Prop} {K : Tel (fl [.one (.int .i64)]) (TW → Prop)} (h : Sh.api_Nat_Bits n (Rt X [.one (.int .i64)] K w) w.here) : Ct Pg F.api_Nat_Bits [n.v] w X [.one (.int .i64)] K :=
  ct_of_den (D := Dc.api_Nat_Bits) (fn := Go.Proofs.Try.f55) Xt_ok follows_ok (by kernel_rfl) (by kernel_rfl) (by kernel_rfl) (Eq.mpr (Eq.api_Nat_Bits n _ _) h)

def Sh.api_Nat_Zero (n : Sl) (R : Value → TW → Prop) (w : TW) : Prop :=
cl Pg F.api_Nat_Len [n.v] w [.one (.int .i64)] fun (r : Int) w1 =>
R (.bool ((r : Int) == 0)) w1
def Dc.api_Nat_Zero : Dc := { N := 6, va := [], vb := [], ann := [], ext := Xt }
theorem Eq.api_Nat_Zero (n : Sl) (R : Value → TW → Prop) (w : TW) : denF Pg Dc.api_Nat_Zero Go.Proofs.Try.f56 (Go.Proofs.Try.f56.body.getD .skip) [n.v] w R = Sh.api_Nat_Zero n R w := by kernel_rfl
theorem Ct.api_Nat_Zero {n : Sl} {w : TW} {X : Nat → Prop} {K : Tel (fl [.one .bool]) (TW → Prop)} (h : Sh.api_Nat_Zero n (Rt X [.one .bool] K w) w.here) : Ct Pg F.api_Nat_Zero [n.v] w X [.one .bool] K :=
  ct_of_den (D := Dc.api_Nat_Zero) (fn := Go.Proofs.Try.f56) Xt_ok follows_ok (by kernel_rfl) (by kernel_rfl) (by kernel_rfl) (Eq.mpr (Eq.api_Nat_Zero n _ _) h)

def Sh.api_Int_Sign (i0 : Sl) (i1 : Bool) (R : Value → TW → Prop) (w : TW) : Prop :=
nwv w fun w1 =>
cl Pg F.api_Nat_Zero [i0.v] w1 [.one .bool] fun (ok : Bool) w2 =>
cond ok (
R (.int .i64 0) w2) (
cond i1 (
R (.int .i64 (-1)) w2) (
R (.int .i64 1) w2))
def Dc.api_Int_Sign : Dc := { N := 10, va := [(1, 10)], vb := [(10, 2)], ann := [], ext := Xt }
theorem Eq.api_Int_Sign (i0 : Sl) (i1 : Bool) (R : Value → TW → Prop) (w : TW) : denF Pg Dc.api_Int_Sign Go.Proofs.Try.f76 (Go.Proofs.Try.f76.body.getD .skip) [.agg #[i0.v, .bool i1]] w R = Sh.api_Int_Sign i0 i1 R w := by kernel_rfl
theorem Ct.api_Int_Sign {i0 : Sl} {i1 : Bool} {w : TW} {X : Nat → Prop} {K : Tel (fl [.one (.int .i64)]) (TW → Prop)} (h : Sh.api_Int_Sign i0 i1 (Rt X [.one (.int .i64)] K w) w.here) : Ct Pg F.api_Int_Sign [.agg #[i0.v, .bool i1]] w X [.one (.int .i64)] K :=
  ct_of_den (D := Dc.api_Int_Sign) (fn := Go.Proofs.Try.f76) Xt_ok follows_ok (by kernel_rfl) (by kernel_rfl) (by kernel_rfl) (Eq.mpr (Eq.api_Int_Sign i0 i1 _ _) h)

def Sh.api_Nat_Len (n : Sl) (R : Value → TW → Prop) (w : TW) : Prop :=
Jn [.int .i64] (fun J0 =>
Lp [.int .i64] (fun (k : Int) w1 C0 =>
Jn [.bool] (fun J1 =>
cond (decide ((k : Int) > 0)) (
bnd (wi (k - 1)) fun n1 =>
ixa n n1 1 fun a =>
ldc (.int .u64) w1 a fun (v : Int) =>
J1 ((v : Int) == 0) w1) (
J1 false w1)) fun (x : Bool) w2 =>
cond x (
bnd (wi (k - 1)) fun n2 =>
C0 n2 w2) (
J0 k w2)) (n.n : Int) w) fun (k1 : Int) w3 =>
R (.int .i64 k1) w3
def Dc.api_Nat_Len : Dc := { N := 19, va := [], vb := [], ann := [(2, 0, [(3, .one (.int .i64))]), (3, 2, [(3, .one (.int .i64))]), (0, 2, [(15, .one .bool)])], ext := Xt }
theorem Eq.api_Nat_Len (n : Sl) (R : Value → TW → Prop) (w : TW) : denF Pg Dc.api_Nat_Len Go.Proofs.Try.f80 (Go.Proofs.Try.f80.body.getD .skip) [n.v] w R = Sh.api_Nat_Len n R w := by kernel_rfl
theorem Ct.api_Nat_Len {n : Sl} {w : TW} {X : Nat → Prop} {K : Tel (fl [.one (.int .i64)]) (TW → Prop)} (h : Sh.api_Nat_Len n (Rt X [.one (.int .i64)] K w) w.here) : Ct Pg F.api_Nat_Len [n.v] w X [.one (.int .i64)] K :=
  ct_of_den (D := Dc.api_Nat_Len) (fn := Go.Proofs.Try.f80) Xt_ok follows_ok (by kernel_rfl) (by kernel_rfl) (by kernel_rfl) (Eq.mpr (Eq.api_Nat_Len n _ _) h)
end Go.Proofs.Ytgcnflfempaliaa.Zg
end

section
set_option maxRecDepth 100000
namespace Go.Proofs.Ytgcnflfempaliaa.Zg
def Sh.bits_Len64 (x : Int) (R : Value → TW → Prop) (w : TW) : Prop :=
Jn [.int .u64, .int .i64] (fun J0 =>
cond (decide ((x : Int) ≥ 4294967296)) (
shrK .u64 x 32 fun n =>
J0 n 32 w) (
J0 x 0 w)) fun (x1 : Int) (n1 : Int) w1 =>
Jn [.int .u64, .int .i64] (fun J1 =>
cond (decide ((x1 : Int) ≥ 65536)) (
shrK .u64 x1 16 fun n2 =>
bnd (wi (n1 + 16)) fun n3 =>
J1 n2 n3 w1) (
J1 x1 n1 w1)) fun (x2 : Int) (n4 : Int) w2 =>
Jn [.int .u64, .int .i64] (fun J2 =>
cond (decide ((x2 : Int) ≥ 256)) (
shrK .u64 x2 8 fun n5 =>
bnd (wi (n4 + 8)) fun n6 =>
J2 n5 n6 w2) (
J2 x2 n4 w2)) fun (x3 : Int) (n7 : Int) w3 =>
bnd (IntKind.u8.wrap (x3)) fun n8 =>
ixs (⟨#[0, 1, 2, 2, 3, 3, 3, 3, 4, 4, 4, 4, 4, 4, 4, 4, 5, 5, 5, 5, 5, 5, 5, 5, 5, 5, 5, 5, 5, 5, 5, 5, 6, 6, 6, 6, 6, 6, 6, 6, 6, 6, 6, 6, 6, 6, 6, 6, 6, 6, 6, 6, 6, 6, 6, 6, 6, 6, 6, 6, 6, 6, 6, 6, 7, 7, 7, 7, 7, 7, 7, 7, 7, 7, 7, 7, 7, 7, 7, 7, 7, 7, 7, 7, 7, 7, 7, 7, 7, 7, 7, 7, 7, 7, 7, 7, 7, 7, 7, 7, 7, 7, 7, 7, 7, 7, 7, 7, 7, 7, 7, 7, 7, 7, 7, 7, 7, 7, 7, 7, 7, 7, 7, 7, 7, 7, 7, 7, 8, 8, 8, 8, 8, 8, 8, 8, 8, 8, 8, 8, 8, 8, 8, 8, 8, 8, 8, 8, 8, 8, 8, 8, 8, 8, 8, 8, 8, 8, 8, 8, 8, 8, 8, 8, 8, 8, 8, 8, 8, 8, 8, 8, 8, 8, 8, 8, 8, 8, 8, 8, 8, 8, 8, 8, 8, 8, 8, 8, 8, 8, 8, 8, 8, 8, 8, 8, 8, 8, 8, 8, 8, 8, 8, 8, 8, 8, 8, 8, 8, 8, 8, 8, 8, 8, 8, 8, 8, 8, 8, 8, 8, 8, 8, 8, 8, 8, 8, 8, 8, 8, 8, 8, 8, 8, 8, 8, 8, 8, 8, 8, 8, 8, 8, 8, 8, 8, 8, 8, 8, 8, 8, 8, 8, 8, 8, 8]⟩ : ByteArray) n8 fun n9 =>
bnd (wi (n9)) fun n10 =>
bnd (wi (n7 + n10)) fun n11 =>
R (.int .i64 n11) w3
def Dc.bits_Len64 : Dc := { N := 25, va := [], vb := [], ann := [(1, 2, [(0, .one (.int .u64)), (2, .one (.int .i64))]), (1, 5, [(0, .one (.int .u64)), (2, .one (.int .i64))]), (1, 8, [(0, .one (.int .u64)), (2, .one (.int .i64))])], ext := Xt }
theorem Eq.bits_Len64 (x : Int) (R : Value → TW → Prop) (w : TW) : denF Pg Dc.bits_Len64 Go.Proofs.Try.f81 (Go.Proofs.Try.f81.body.getD .skip) [.int .u64 x] w R = Sh.bits_Len64 x R w := by kernel_rfl
theorem Ct.bits_Len64 {x : Int} {w : TW} {X : Nat → Prop} {K : Tel (fl [.one (.int .i64)]) (TW → Prop)} (h : Sh.bits_Len64 x (Rt X [.one (.int .i64)] K w) w.here) : Ct Pg F.bits_Len64 [.int .u64 x] w X [.one (.int .i64)] K :=
  ct_of_den (D := Dc.bits_Len64) (fn := Go.Proofs.Try.f81) Xt_ok follows_ok (by kernel_rfl) (by kernel_rfl) (by kernel_rfl) (Eq.mpr (Eq.bits_Len64 x _ _) h)
end Go.Proofs.Ytgcnflfempaliaa.Zg
end

section
set_option maxRecDepth 100000
namespace Go.Proofs.Ytgcnflfempaliaa.Zg
def Sh.div_New (t : HL [.int .i64, .int .i64, .int .i64, .int .i64, .int .i64, .int .i64, .int .i64, .int .i64, .int .i64, .int .i64, .int .i64]) (R : Value → TW → Prop) (w : TW) : Prop :=
nwv w fun w1 =>
cl Pg F.recip_New [.agg #[.int .i64 t.1, .int .i64 t.2.1, .int .i64 t.2.2.1, .int .i64 t.2.2.2.1, .int .i64 t.2.2.2.2.1, .int .i64 t.2.2.2.2.2.1, .int .i64 t.2.2.2.2.2.2.1, .int .i64 t.2.2.2.2.2.2.2.1, .int .i64 t.2.2.2.2.2.2.2.2.1, .int .i64 t.2.2.2.2.2.2.2.2.2.1, .int .i64 t.2.2.2.2.2.2.2.2.2.2.1]] w1 [.one .ptr] fun (p : Option Addr) w2 =>
nwb w2 [.pointer p] T.div_Engine fun b w3 =>
R (.pointer (some ⟨b, 0, none⟩)) w3
def Dc.div_New : Dc := { N := 7, va := [(1, 7)], vb := [(7, 11)], ann := [], ext := Xt }
theorem Eq.div_New (t : HL [.int .i64, .int .i64, .int .i64, .int .i64, .int .i64, .int .i64, .int .i64, .int .i64, .int .i64, .int .i64, .int .i64]) (R : Value → TW → Prop) (w : TW) : denF Pg Dc.div_New Go.Proofs.Try.f94 (Go.Proofs.Try.f94.body.getD .skip) [.agg (encs [.int .i64, .int .i64, .int .i64, .int .i64, .int .i64, .int .i64, .int .i64, .int .i64, .int .i64, .int .i64, .int .i64] t).toArray] w R = Sh.div_New t R w := by kernel_rfl
theorem Ct.div_New {t : HL [.int .i64, .int .i64, .int .i64, .int .i64, .int .i64, .int .i64, .int .i64, .int .i64, .int .i64, .int .i64, .int .i64]} {w : TW} {X : Nat → Prop} {K : Tel (fl [.one .ptr]) (TW → Prop)} (h : Sh.div_New t (Rt X [.one .ptr] K w) w.here) : Ct Pg F.div_New [.agg (encs [.int .i64, .int .i64, .int .i64, .int .i64, .int .i64, .int .i64, .int .i64, .int .i64, .int .i64, .int .i64, .int .i64] t).toArray] w X [.one .ptr] K :=
  ct_of_den (D := Dc.div_New) (fn := Go.Proofs.Try.f94) Xt_ok follows_ok (by kernel_rfl) (by kernel_rfl) (by kernel_rfl) (Eq.mpr (Eq.div_New t _ _) h)
end Go.Proofs.Ytgcnflfempaliaa.Zg
end

section
set_option maxRecDepth 100000
namespace Go.Proofs.Ytgcnflfempaliaa.Zg
def Sh.divs_New (t : HL [.int .i64, .int .i64, .int .i64, .int .i64, .int .i64, .int .i64, .int .i64, .int .i64, .int .i64, .int .i64, .int .i64]) (R : Value → TW → Prop) (w : TW) : Prop :=
nwv w fun w1 =>
cl Pg F.mul_New [.agg #[.int .i64 t.1, .int .i64 t.2.1, .int .i64 t.2.2.1, .int .i64 t.2.2.2.1, .int .i64 t.2.2.2.2.1, .int .i64 t.2.2.2.2.2.1, .int .i64 t.2.2.2.2.2.2.1, .int .i64 t.2.2.2.2.2.2.2.1, .int .i64 t.2.2.2.2.2.2.2.2.1, .int .i64 t.2.2.2.2.2.2.2.2.2.1, .int .i64 t.2.2.2.2.2.2.2.2.2.2.1]] w1 [.one .ptr] fun (p : Option Addr) w2 =>
nwb w2 [.pointer p] T.divs_Engine fun b w3 =>
R (.pointer (some ⟨b, 0, none⟩)) w3
def Dc.divs_New : Dc := { N := 7, va := [(1, 7)], vb := [(7, 11)], ann := [], ext := Xt }
theorem Eq.divs_New (t : HL [.int .i64, .int .i64, .int .i64, .int .i64, .int .i64, .int .i64, .int .i64, .int .i64, .int .i64, .int .i64, .int .i64]) (R : Value → TW → Prop) (w : TW) : denF Pg Dc.divs_New Go.Proofs.Try.f96 (Go.Proofs.Try.f96.body.getD .skip) [.agg (encs [.int .i64, .int .i64, .int .i64, .int .i64, .int .i64, .int .i64, .int .i64, .int .i64, .int .i64, .int .i64, .int .i64] t).toArray] w R = Sh.divs_New t R w := by kernel_rfl
theorem Ct.divs_New {t : HL [.int .i64, .int .i64, .int .i64, .int .i64, .int .i64, .int .i64, .int .i64, .int .i64, .int .i64, .int .i64, .int .i64]} {w : TW} {X : Nat → Prop} {K : Tel (fl [.one .ptr]) (TW → Prop)} (h : Sh.divs_New t (Rt X [.one .ptr] K w) w.here) : Ct Pg F.divs_New [.agg (encs [.int .i64, .int .i64, .int .i64, .int .i64, .int .i64, .int .i64, .int .i64, .int .i64, .int .i64, .int .i64, .int .i64] t).toArray] w X [.one .ptr] K :=
  ct_of_den (D := Dc.divs_New) (fn := Go.Proofs.Try.f96) Xt_ok follows_ok (by kernel_rfl) (by kernel_rfl) (by kernel_rfl) (Eq.mpr (Eq.divs_New t _ _) h)
end Go.Proofs.Ytgcnflfempaliaa.Zg
end

section
set_option maxRecDepth 100000
namespace Go.Proofs.Ytgcnflfempaliaa.Zg
def Sh.gcd_New (t : HL [.int .i64, .int .i64, .int .i64, .int .i64, .int .i64, .int .i64, .int .i64, .int .i64, .int .i64, .int .i64, .int .i64]) (R : Value → TW → Prop) (w : TW) : Prop :=
nwv w fun w1 =>
cl Pg F.power_New [.agg #[.int .i64 t.1, .int .i64 t.2.1, .int .i64 t.2.2.1, .int .i64 t.2.2.2.1, .int .i64 t.2.2.2.2.1, .int .i64 t.2.2.2.2.2.1, .int .i64 t.2.2.2.2.2.2.1, .int .i64 t.2.2.2.2.2.2.2.1, .int .i64 t.2.2.2.2.2.2.2.2.1, .int .i64 t.2.2.2.2.2.2.2.2.2.1, .int .i64 t.2.2.2.2.2.2.2.2.2.2.1]] w1 [.one .ptr] fun (p : Option Addr) w2 =>
nwb w2 [.pointer p] T.gcd_Engine fun b w3 =>
R (.pointer (some ⟨b, 0, none⟩)) w3
def Dc.gcd_New : Dc := { N := 7, va := [(1, 7)], vb := [(7, 11)], ann := [], ext := Xt }
theorem Eq.gcd_New (t : HL [.int .i64, .int .i64, .int .i64, .int .i64, .int .i64, .int .i64, .int .i64, .int .i64, .int .i64, .int .i64, .int .i64]) (R : Value → TW → Prop) (w : TW) : denF Pg Dc.gcd_New Go.Proofs.Try.f87 (Go.Proofs.Try.f87.body.getD .skip) [.agg (encs [.int .i64, .int .i64, .int .i64, .int .i64, .int .i64, .int .i64, .int .i64, .int .i64, .int .i64, .int .i64, .int .i64] t).toArray] w R = Sh.gcd_New t R w := by kernel_rfl
theorem Ct.gcd_New {t : HL [.int .i64, .int .i64, .int .i64, .int .i64, .int .i64, .int .i64, .int .i64, .int .i64, .int .i64, .int .i64, .int .i64]} {w : TW} {X : Nat → Prop} {K : Tel (fl [.one .ptr]) (TW → Prop)} (h : Sh.gcd_New t (Rt X [.one .ptr] K w) w.here) : Ct Pg F.gcd_New [.agg (encs [.int .i64, .int .i64, .int .i64, .int .i64, .int .i64, .int .i64, .int .i64, .int .i64, .int .i64, .int .i64, .int .i64] t).toArray] w X [.one .ptr] K :=
  ct_of_den (D := Dc.gcd_New) (fn := Go.Proofs.Try.f87) Xt_ok follows_ok (by kernel_rfl) (by kernel_rfl) (by kernel_rfl) (Eq.mpr (Eq.gcd_New t _ _) h)
end Go.Proofs.Ytgcnflfempaliaa.Zg
end

section
set_option maxRecDepth 100000
namespace Go.Proofs.Ytgcnflfempaliaa.Zg
def Sh.hgcd_New (t : HL [.int .i64, .int .i64, .int .i64, .int .i64, .int .i64, .int .i64, .int .i64, .int .i64, .int .i64, .int .i64, .int .i64]) (R : Value → TW → Prop) (w : TW) : Prop :=
nwv w fun w1 =>
cl Pg F.gcd_New [.agg #[.int .i64 t.1, .int .i64 t.2.1, .int .i64 t.2.2.1, .int .i64 t.2.2.2.1, .int .i64 t.2.2.2.2.1, .int .i64 t.2.2.2.2.2.1, .int .i64 t.2.2.2.2.2.2.1, .int .i64 t.2.2.2.2.2.2.2.1, .int .i64 t.2.2.2.2.2.2.2.2.1, .int .i64 t.2.2.2.2.2.2.2.2.2.1, .int .i64 t.2.2.2.2.2.2.2.2.2.2.1]] w1 [.one .ptr] fun (p : Option Addr) w2 =>
nwb w2 [.pointer p] T.hgcd_Engine fun b w3 =>
R (.pointer (some ⟨b, 0, none⟩)) w3
def Dc.hgcd_New : Dc := { N := 7, va := [(1, 7)], vb := [(7, 11)], ann := [], ext := Xt }
theorem Eq.hgcd_New (t : HL [.int .i64, .int .i64, .int .i64, .int .i64, .int .i64, .int .i64, .int .i64, .int .i64, .int .i64, .int .i64, .int .i64]) (R : Value → TW → Prop) (w : TW) : denF Pg Dc.hgcd_New Go.Proofs.Try.f77 (Go.Proofs.Try.f77.body.getD .skip) [.agg (encs [.int .i64, .int .i64, .int .i64, .int .i64, .int .i64, .int .i64, .int .i64, .int .i64, .int .i64, .int .i64, .int .i64] t).toArray] w R = Sh.hgcd_New t R w := by kernel_rfl
theorem Ct.hgcd_New {t : HL [.int .i64, .int .i64, .int .i64, .int .i64, .int .i64, .int .i64, .int .i64, .int .i64, .int .i64, .int .i64, .int .i64]} {w : TW} {X : Nat → Prop} {K : Tel (fl [.one .ptr]) (TW → Prop)} (h : Sh.hgcd_New t (Rt X [.one .ptr] K w) w.here) : Ct Pg F.hgcd_New [.agg (encs [.int .i64, .int .i64, .int .i64, .int .i64, .int .i64, .int .i64, .int .i64, .int .i64, .int .i64, .int .i64, .int .i64] t).toArray] w X [.one .ptr] K :=
  ct_of_den (D := Dc.hgcd_New) (fn := Go.Proofs.Try.f77) Xt_ok follows_ok (by kernel_rfl) (by kernel_rfl) (by kernel_rfl) (Eq.mpr (Eq.hgcd_New t _ _) h)
end Go.Proofs.Ytgcnflfempaliaa.Zg
end

section
set_option maxRecDepth 100000
namespace Go.Proofs.Ytgcnflfempaliaa.Zg
def Sh.kara_New (t : HL [.int .i64, .int .i64, .int .i64, .int .i64, .int .i64, .int .i64, .int .i64, .int .i64, .int .i64, .int .i64, .int .i64]) (R : Value → TW → Prop) (w : TW) : Prop :=
nwv w fun w1 =>
cl Pg F.school_New [.agg #[.int .i64 t.1, .int .i64 t.2.1, .int .i64 t.2.2.1, .int .i64 t.2.2.2.1, .int .i64 t.2.2.2.2.1, .int .i64 t.2.2.2.2.2.1, .int .i64 t.2.2.2.2.2.2.1, .int .i64 t.2.2.2.2.2.2.2.1, .int .i64 t.2.2.2.2.2.2.2.2.1, .int .i64 t.2.2.2.2.2.2.2.2.2.1, .int .i64 t.2.2.2.2.2.2.2.2.2.2.1]] w1 [.one .ptr] fun (p : Option Addr) w2 =>
nwb w2 [.pointer p] T.kara_Engine fun b w3 =>
R (.pointer (some ⟨b, 0, none⟩)) w3
def Dc.kara_New : Dc := { N := 7, va := [(1, 7)], vb := [(7, 11)], ann := [], ext := Xt }
theorem Eq.kara_New (t : HL [.int .i64, .int .i64, .int .i64, .int .i64, .int .i64, .int .i64, .int .i64, .int .i64, .int .i64, .int .i64, .int .i64]) (R : Value → TW → Prop) (w : TW) : denF Pg Dc.kara_New Go.Proofs.Try.f99 (Go.Proofs.Try.f99.body.getD .skip) [.agg (encs [.int .i64, .int .i64, .int .i64, .int .i64, .int .i64, .int .i64, .int .i64, .int .i64, .int .i64, .int .i64, .int .i64] t).toArray] w R = Sh.kara_New t R w := by kernel_rfl
theorem Ct.kara_New {t : HL [.int .i64, .int .i64, .int .i64, .int .i64, .int .i64, .int .i64, .int .i64, .int .i64, .int .i64, .int .i64, .int .i64]} {w : TW} {X : Nat → Prop} {K : Tel (fl [.one .ptr]) (TW → Prop)} (h : Sh.kara_New t (Rt X [.one .ptr] K w) w.here) : Ct Pg F.kara_New [.agg (encs [.int .i64, .int .i64, .int .i64, .int .i64, .int .i64, .int .i64, .int .i64, .int .i64, .int .i64, .int .i64, .int .i64] t).toArray] w X [.one .ptr] K :=
  ct_of_den (D := Dc.kara_New) (fn := Go.Proofs.Try.f99) Xt_ok follows_ok (by kernel_rfl) (by kernel_rfl) (by kernel_rfl) (Eq.mpr (Eq.kara_New t _ _) h)
end Go.Proofs.Ytgcnflfempaliaa.Zg
end

section
set_option maxRecDepth 100000
namespace Go.Proofs.Ytgcnflfempaliaa.Zg
def Sh.limb_Shl (a : Sl) (n : Int) (R : Value → TW → Prop) (w : TW) : Prop :=
cl Pg F.limb_within [.int .i64 n, .int .i64 1048576] w [.one (.int .i64)] fun (r : Int) w1 =>
cl Pg F.limb_trim [a.v] w1 [.one .slice] fun (s : Sl) w2 =>
cond (((s.n : Int) : Int) == 0) (
R (.slice none 0 0) w2) (
divK .i64 r 64 fun n1 =>
remK r 64 fun n2 =>
bnd (wu (n2)) fun n3 =>
bnd (wi ((s.n : Int) + n1)) fun n4 =>
bnd (wi (n4 + 1)) fun n5 =>
mks w2 n5 n5 T.uint64 8 [.int .u64 0] fun s1 w3 =>
Jn [] (fun J0 =>
Lp [.int .i64] (fun (x : Int) w4 C0 =>
cond (decide ((x : Int) < (s.n : Int))) (
ixa s x 1 fun a1 =>
ldc (.int .u64) w4 a1 fun (v : Int) =>
bnd (wi (x + n1)) fun n6 =>
bnd (wi (x + n1)) fun n7 =>
ixa s1 n7 1 fun a2 =>
ldc (.int .u64) w4 a2 fun (v1 : Int) =>
shlK .u64 v n3 fun n8 =>
bnd (bits2 .or .u64 v1 n8) fun n9 =>
ixa s1 n6 1 fun a3 =>
stc w4 a3 (.int .u64 n9) fun w5 =>
Jn [] (fun J1 =>
cond (decide ((n3 : Int) > 0)) (
bnd (wi (x + n1)) fun n10 =>
bnd (wi (n10 + 1)) fun n11 =>
bnd (wu (64 - n3)) fun n12 =>
shrK .u64 v n12 fun n13 =>
ixa s1 n11 1 fun a4 =>
stc w5 a4 (.int .u64 n13) fun w6 =>
J1 w6) (
J1 w5)) fun  w7 =>
bnd (wi (x + 1)) fun n14 =>
C0 n14 w7) (
J0 w4)) 0 w3) fun  w8 =>
cl Pg F.limb_trim [s1.v] w8 [.one .slice] fun (s2 : Sl) w9 =>
R (s2.v) w9)
def Dc.limb_Shl : Dc := { N := 65, va := [], vb := [], ann := [(2, 0, []), (3, 8, [(30, .one (.int .i64))]), (1, 12, [])], ext := Xt }
theorem Eq.limb_Shl (a : Sl) (n : Int) (R : Value → TW → Prop) (w : TW) : denF Pg Dc.limb_Shl Go.Proofs.Try.f53 (Go.Proofs.Try.f53.body.getD .skip) [a.v, .int .i64 n] w R = Sh.limb_Shl a n R w := by kernel_rfl
theorem Ct.limb_Shl {a : Sl} {n : Int} {w : TW} {X : Nat → Prop} {K : Tel (fl [.one .slice]) (TW → Prop)} (h : Sh.limb_Shl a n (Rt X [.one .slice] K w) w.here) : Ct Pg F.limb_Shl [a.v, .int .i64 n] w X [.one .slice] K :=
  ct_of_den (D := Dc.limb_Shl) (fn := Go.Proofs.Try.f53) Xt_ok follows_ok (by kernel_rfl) (by kernel_rfl) (by kernel_rfl) (Eq.mpr (Eq.limb_Shl a n _ _) h)

def Sh.limb_One (y : Int) (R : Value → TW → Prop) (w : TW) : Prop :=
cond ((y : Int) == 0) (
R (.slice none 0 0) w) (
nwb w [.int .u64 y] T.uint64 fun b w1 =>
R (.slice (some ⟨b, 0, none⟩) 1 1) w1)
def Dc.limb_One : Dc := { N := 7, va := [], vb := [], ann := [], ext := Xt }
theorem Eq.limb_One (y : Int) (R : Value → TW → Prop) (w : TW) : denF Pg Dc.limb_One Go.Proofs.Try.f54 (Go.Proofs.Try.f54.body.getD .skip) [.int .u64 y] w R = Sh.limb_One y R w := by kernel_rfl
theorem Ct.limb_One {y : Int} {w : TW} {X : Nat → Prop} {K : Tel (fl [.one .slice]) (TW → Prop)} (h : Sh.limb_One y (Rt X [.one .slice] K w) w.here) : Ct Pg F.limb_One [.int .u64 y] w X [.one .slice] K :=
  ct_of_den (D := Dc.limb_One) (fn := Go.Proofs.Try.f54) Xt_ok follows_ok (by kernel_rfl) (by kernel_rfl) (by kernel_rfl) (Eq.mpr (Eq.limb_One y _ _) h)

def Sh.limb_Add (a : Sl) (b : Sl) (R : Value → TW → Prop) (w : TW) : Prop :=
cl Pg F.limb_trim [a.v] w [.one .slice] fun (s : Sl) w1 =>
cl Pg F.limb_trim [b.v] w1 [.one .slice] fun (s1 : Sl) w2 =>
Jn [.slice, .slice] (fun J0 =>
cond (decide (((s.n : Int) : Int) < (s1.n : Int))) (
J0 s1 s w2) (
J0 s s1 w2)) fun (a1 : Sl) (b1 : Sl) w3 =>
bnd (wi ((a1.n : Int) + 1)) fun n =>
mks w3 n n T.uint64 8 [.int .u64 0] fun s2 w4 =>
Jn [.int .u64] (fun J1 =>
Lp [.int .u64, .int .i64] (fun (c : Int) (x : Int) w5 C0 =>
cond (decide ((x : Int) < (a1.n : Int))) (
Jn [.int .u64] (fun J2 =>
cond (decide ((x : Int) < (b1.n : Int))) (
ixa b1 x 1 fun a2 =>
ldc (.int .u64) w5 a2 fun (v : Int) =>
J2 v w5) (
J2 0 w5)) fun (y : Int) w6 =>
ixa a1 x 1 fun a3 =>
ldc (.int .u64) w6 a3 fun (v1 : Int) =>
add64 v1 y c fun s3 c1 =>
ixa s2 x 1 fun a4 =>
stc w6 a4 (.int .u64 s3) fun w7 =>
bnd (wi (x + 1)) fun n1 =>
C0 c1 n1 w7) (
J1 c w5)) 0 0 w4) fun (c2 : Int) w8 =>
ixa s2 (a1.n : Int) 1 fun a5 =>
stc w8 a5 (.int .u64 c2) fun w9 =>
cl Pg F.limb_trim [s2.v] w9 [.one .slice] fun (s4 : Sl) w10 =>
R (s4.v) w10
def Dc.limb_Add : Dc := { N := 58, va := [], vb := [], ann := [(1, 3, [(0, .one .slice), (1, .one .slice)]), (2, 0, [(6, .one (.int .u64))]), (3, 7, [(6, .one (.int .u64)), (26, .one (.int .i64))]), (1, 11, [(8, .one (.int .u64))])], ext := Xt }
theorem Eq.limb_Add (a : Sl) (b : Sl) (R : Value → TW → Prop) (w : TW) : denF Pg Dc.limb_Add Go.Proofs.Try.f57 (Go.Proofs.Try.f57.body.getD .skip) [a.v, b.v] w R = Sh.limb_Add a b R w := by kernel_rfl
theorem Ct.limb_Add {a : Sl} {b : Sl} {w : TW} {X : Nat → Prop} {K : Tel (fl [.one .slice]) (TW → Prop)} (h : Sh.limb_Add a b (Rt X [.one .slice] K w) w.here) : Ct Pg F.limb_Add [a.v, b.v] w X [.one .slice] K :=
  ct_of_den (D := Dc.limb_Add) (fn := Go.Proofs.Try.f57) Xt_ok follows_ok (by kernel_rfl) (by kernel_rfl) (by kernel_rfl) (Eq.mpr (Eq.limb_Add a b _ _) h)

def Sh.limb_Cmp (a : Sl) (b : Sl) (R : Value → TW → Prop) (w : TW) : Prop :=
cl Pg F.api_Nat_Len [a.v] w [.one (.int .i64)] fun (r : Int) w1 =>
cl Pg F.api_Nat_Len [b.v] w1 [.one (.int .i64)] fun (r1 : Int) w2 =>
cond ((r : Int) != r1) (
cond (decide ((r : Int) < r1)) (
R (.int .i64 (-1)) w2) (
R (.int .i64 1) w2)) (
bnd (wi (r - 1)) fun n =>
Jn [] (fun J0 =>
Lp [.int .i64] (fun (i : Int) w3 C0 =>
cond (decide ((i : Int) ≥ 0)) (
ixa a i 1 fun a1 =>
ldc (.int .u64) w3.drew a1 fun (v : Int) =>
ixa b i 1 fun a2 =>
ldc (.int .u64) w3.drew a2 fun (v1 : Int) =>
cond ((v : Int) != v1) (
ixa a i 1 fun a3 =>
ldc (.int .u64) w3.drew.drew a3 fun (v2 : Int) =>
ixa b i 1 fun a4 =>
ldc (.int .u64) w3.drew.drew a4 fun (v3 : Int) =>
cond (decide ((v2 : Int) < v3)) (
R (.int .i64 (-1)) w3.drew.drew) (
R (.int .i64 1) w3.drew.drew)) (
bnd (wi (i - 1)) fun n1 =>
C0 n1 w3.drew)) (
J0 w3)) n w2) fun  w4 =>
R (.int .i64 0) w4)
def Dc.limb_Cmp : Dc := { N := 42, va := [], vb := [], ann := [(2, 0, []), (3, 7, [(7, .one (.int .i64))])], ext := Xt }
theorem Eq.limb_Cmp (a : Sl) (b : Sl) (R : Value → TW → Prop) (w : TW) : denF Pg Dc.limb_Cmp Go.Proofs.Try.f59 (Go.Proofs.Try.f59.body.getD .skip) [a.v, b.v] w R = Sh.limb_Cmp a b R w := by kernel_rfl
theorem Ct.limb_Cmp {a : Sl} {b : Sl} {w : TW} {X : Nat → Prop} {K : Tel (fl [.one (.int .i64)]) (TW → Prop)} (h : Sh.limb_Cmp a b (Rt X [.one (.int .i64)] K w) w.here) : Ct Pg F.limb_Cmp [a.v, b.v] w X [.one (.int .i64)] K :=
  ct_of_den (D := Dc.limb_Cmp) (fn := Go.Proofs.Try.f59) Xt_ok follows_ok (by kernel_rfl) (by kernel_rfl) (by kernel_rfl) (Eq.mpr (Eq.limb_Cmp a b _ _) h)

def Sh.limb_Sub (a : Sl) (b : Sl) (R : Value → TW → Prop) (w : TW) : Prop :=
cl Pg F.limb_trim [a.v] w [.one .slice] fun (s : Sl) w1 =>
cl Pg F.limb_trim [b.v] w1 [.one .slice] fun (s1 : Sl) w2 =>
cl Pg F.limb_Cmp [s.v, s1.v] w2 [.one (.int .i64)] fun (r : Int) w3 =>
cond (decide ((r : Int) < 0)) (
R (.tuple #[.slice none 0 0, .bool false]) w3) (
mks w3 (s.n : Int) (s.n : Int) T.uint64 8 [.int .u64 0] fun s2 w4 =>
Jn [] (fun J0 =>
Lp [.int .u64, .int .i64] (fun (c : Int) (x : Int) w5 C0 =>
cond (decide ((x : Int) < (s.n : Int))) (
Jn [.int .u64] (fun J1 =>
cond (decide ((x : Int) < (s1.n : Int))) (
ixa s1 x 1 fun a1 =>
ldc (.int .u64) w5 a1 fun (v : Int) =>
J1 v w5) (
J1 0 w5)) fun (y : Int) w6 =>
ixa s x 1 fun a2 =>
ldc (.int .u64) w6 a2 fun (v1 : Int) =>
sub64 v1 y c fun s3 c1 =>
ixa s2 x 1 fun a3 =>
stc w6 a3 (.int .u64 s3) fun w7 =>
bnd (wi (x + 1)) fun n =>
C0 c1 n w7) (
J0 w5)) 0 0 w4) fun  w8 =>
cl Pg F.limb_trim [s2.v] w8 [.one .slice] fun (s4 : Sl) w9 =>
R (.tuple #[s4.v, .bool true]) w9)
def Dc.limb_Sub : Dc := { N := 50, va := [], vb := [], ann := [(2, 0, []), (3, 7, [(7, .one (.int .u64)), (23, .one (.int .i64))]), (1, 11, [(9, .one (.int .u64))])], ext := Xt }
theorem Eq.limb_Sub (a : Sl) (b : Sl) (R : Value → TW → Prop) (w : TW) : denF Pg Dc.limb_Sub Go.Proofs.Try.f60 (Go.Proofs.Try.f60.body.getD .skip) [a.v, b.v] w R = Sh.limb_Sub a b R w := by kernel_rfl
theorem Ct.limb_Sub {a : Sl} {b : Sl} {w : TW} {X : Nat → Prop} {K : Tel (fl [.one .slice, .one .bool]) (TW → Prop)} (h : Sh.limb_Sub a b (Rt X [.one .slice, .one .bool] K w) w.here) : Ct Pg F.limb_Sub [a.v, b.v] w X [.one .slice, .one .bool] K :=
  ct_of_den (D := Dc.limb_Sub) (fn := Go.Proofs.Try.f60) Xt_ok follows_ok (by kernel_rfl) (by kernel_rfl) (by kernel_rfl) (Eq.mpr (Eq.limb_Sub a b _ _) h)

def Sh.limb_Norm (a : Sl) (R : Value → TW → Prop) (w : TW) : Prop :=
cl Pg F.limb_trim [a.v] w [.one .slice] fun (s : Sl) w1 =>
apd w1 T.uint64 1 8 Sl.nil s fun s1 w2 =>
R (s1.v) w2
def Dc.limb_Norm : Dc := { N := 6, va := [], vb := [], ann := [], ext := Xt }
theorem Eq.limb_Norm (a : Sl) (R : Value → TW → Prop) (w : TW) : denF Pg Dc.limb_Norm Go.Proofs.Try.f62 (Go.Proofs.Try.f62.body.getD .skip) [a.v] w R = Sh.limb_Norm a R w := by kernel_rfl
theorem Ct.limb_Norm {a : Sl} {w : TW} {X : Nat → Prop} {K : Tel (fl [.one .slice]) (TW → Prop)} (h : Sh.limb_Norm a (Rt X [.one .slice] K w) w.here) : Ct Pg F.limb_Norm [a.v] w X [.one .slice] K :=
  ct_of_den (D := Dc.limb_Norm) (fn := Go.Proofs.Try.f62) Xt_ok follows_ok (by kernel_rfl) (by kernel_rfl) (by kernel_rfl) (Eq.mpr (Eq.limb_Norm a _ _) h)

def Sh.limb_within (n : Int) (most : Int) (R : Value → TW → Prop) (w : TW) : Prop :=
bnd (if (most : Int) < n then most else n) fun n1 =>
bnd (if (n1 : Int) > 0 then n1 else 0) fun n2 =>
R (.int .i64 n2) w
def Dc.limb_within : Dc := { N := 9, va := [], vb := [], ann := [], ext := Xt }
theorem Eq.limb_within (n : Int) (most : Int) (R : Value → TW → Prop) (w : TW) : denF Pg Dc.limb_within Go.Proofs.Try.f78 (Go.Proofs.Try.f78.body.getD .skip) [.int .i64 n, .int .i64 most] w R = Sh.limb_within n most R w := by kernel_rfl
theorem Ct.limb_within {n : Int} {most : Int} {w : TW} {X : Nat → Prop} {K : Tel (fl [.one (.int .i64)]) (TW → Prop)} (h : Sh.limb_within n most (Rt X [.one (.int .i64)] K w) w.here) : Ct Pg F.limb_within [.int .i64 n, .int .i64 most] w X [.one (.int .i64)] K :=
  ct_of_den (D := Dc.limb_within) (fn := Go.Proofs.Try.f78) Xt_ok follows_ok (by kernel_rfl) (by kernel_rfl) (by kernel_rfl) (Eq.mpr (Eq.limb_within n most _ _) h)

def Sh.limb_trim (a : Sl) (R : Value → TW → Prop) (w : TW) : Prop :=
cl Pg F.api_Nat_Len [a.v] w [.one (.int .i64)] fun (r : Int) w1 =>
slc a 0 r 1 fun s =>
R (s.v) w1
def Dc.limb_trim : Dc := { N := 7, va := [], vb := [], ann := [], ext := Xt }
theorem Eq.limb_trim (a : Sl) (R : Value → TW → Prop) (w : TW) : denF Pg Dc.limb_trim Go.Proofs.Try.f79 (Go.Proofs.Try.f79.body.getD .skip) [a.v] w R = Sh.limb_trim a R w := by kernel_rfl
theorem Ct.limb_trim {a : Sl} {w : TW} {X : Nat → Prop} {K : Tel (fl [.one .slice]) (TW → Prop)} (h : Sh.limb_trim a (Rt X [.one .slice] K w) w.here) : Ct Pg F.limb_trim [a.v] w X [.one .slice] K :=
  ct_of_den (D := Dc.limb_trim) (fn := Go.Proofs.Try.f79) Xt_ok follows_ok (by kernel_rfl) (by kernel_rfl) (by kernel_rfl) (Eq.mpr (Eq.limb_trim a _ _) h)

def Sh.limb_Low (a : Sl) (n : Int) (R : Value → TW → Prop) (w : TW) : Prop :=
cl Pg F.limb_within [.int .i64 n, .int .i64 1048576] w [.one (.int .i64)] fun (r : Int) w1 =>
cl Pg F.limb_trim [a.v] w1 [.one .slice] fun (s : Sl) w2 =>
divK .i64 r 64 fun n1 =>
remK r 64 fun n2 =>
bnd (wu (n2)) fun n3 =>
cond (decide ((n1 : Int) ≥ (s.n : Int))) (
apd w2 T.uint64 1 8 Sl.nil s fun s1 w3 =>
R (s1.v) w3) (
slc s 0 n1 1 fun s2 =>
apd w2 T.uint64 1 8 Sl.nil s2 fun s3 w4 =>
Jn [.slice] (fun J0 =>
cond (decide ((n3 : Int) > 0)) (
ixa s n1 1 fun a1 =>
ldc (.int .u64) w4 a1 fun (v : Int) =>
shlK .u64 1 n3 fun n4 =>
bnd (wu (n4 - 1)) fun n5 =>
bnd (bits2 .and .u64 v n5) fun n6 =>
nwb w4 [.int .u64 n6] T.uint64 fun b w5 =>
apd w5 T.uint64 1 8 s3 ⟨(some ⟨b, 0, none⟩), 1, 1⟩ fun s4 w6 =>
J0 s4 w6) (
J0 s3 w4)) fun (out : Sl) w7 =>
cl Pg F.limb_trim [out.v] w7 [.one .slice] fun (s5 : Sl) w8 =>
R (s5.v) w8)
def Dc.limb_Low : Dc := { N := 42, va := [], vb := [], ann := [(1, 8, [(7, .one .slice)])], ext := Xt }
theorem Eq.limb_Low (a : Sl) (n : Int) (R : Value → TW → Prop) (w : TW) : denF Pg Dc.limb_Low Go.Proofs.Try.f83 (Go.Proofs.Try.f83.body.getD .skip) [a.v, .int .i64 n] w R = Sh.limb_Low a n R w := by kernel_rfl
theorem Ct.limb_Low {a : Sl} {n : Int} {w : TW} {X : Nat → Prop} {K : Tel (fl [.one .slice]) (TW → Prop)} (h : Sh.limb_Low a n (Rt X [.one .slice] K w) w.here) : Ct Pg F.limb_Low [a.v, .int .i64 n] w X [.one .slice] K :=
  ct_of_den (D := Dc.limb_Low) (fn := Go.Proofs.Try.f83) Xt_ok follows_ok (by kernel_rfl) (by kernel_rfl) (by kernel_rfl) (Eq.mpr (Eq.limb_Low a n _ _) h)

def Sh.limb_Shr (a : Sl) (n : Int) (R : Value → TW → Prop) (w : TW) : Prop :=
cl Pg F.limb_within [.int .i64 n, .int .i64 1048576] w [.one (.int .i64)] fun (r : Int) w1 =>
cl Pg F.limb_trim [a.v] w1 [.one .slice] fun (s : Sl) w2 =>
divK .i64 r 64 fun n1 =>
remK r 64 fun n2 =>
bnd (wu (n2)) fun n3 =>
cond (decide ((n1 : Int) ≥ (s.n : Int))) (
R (.slice none 0 0) w2) (
bnd (wi ((s.n : Int) - n1)) fun n4 =>
mks w2 n4 n4 T.uint64 8 [.int .u64 0] fun s1 w3 =>
Jn [] (fun J0 =>
Lp [.int .i64] (fun (x : Int) w4 C0 =>
cond (decide ((x : Int) < (s1.n : Int))) (
bnd (wi (x + n1)) fun n5 =>
ixa s n5 1 fun a1 =>
ldc (.int .u64) w4 a1 fun (v : Int) =>
shrK .u64 v n3 fun n6 =>
ixa s1 x 1 fun a2 =>
stc w4 a2 (.int .u64 n6) fun w5 =>
Jn [.bool] (fun J1 =>
cond (decide ((n3 : Int) > 0)) (
bnd (wi (x + n1)) fun n7 =>
bnd (wi (n7 + 1)) fun n8 =>
J1 (decide ((n8 : Int) < (s.n : Int))) w5) (
J1 false w5)) fun (x1 : Bool) w6 =>
Jn [] (fun J2 =>
cond x1 (
ixa s1 x 1 fun a3 =>
ldc (.int .u64) w6.drew a3 fun (v1 : Int) =>
bnd (wi (x + n1)) fun n9 =>
bnd (wi (n9 + 1)) fun n10 =>
ixa s n10 1 fun a4 =>
ldc (.int .u64) w6.drew a4 fun (v2 : Int) =>
bnd (wu (64 - n3)) fun n11 =>
shlK .u64 v2 n11 fun n12 =>
bnd (bits2 .or .u64 v1 n12) fun n13 =>
ixa s1 x 1 fun a5 =>
stc w6.drew a5 (.int .u64 n13) fun w7 =>
J2 w7) (
J2 w6)) fun  w8 =>
bnd (wi (x + 1)) fun n14 =>
C0 n14 w8) (
J0 w4)) 0 w3) fun  w9 =>
cl Pg F.limb_trim [s1.v] w9 [.one .slice] fun (s2 : Sl) w10 =>
R (s2.v) w10)
def Dc.limb_Shr : Dc := { N := 75, va := [], vb := [], ann := [(2, 0, []), (3, 8, [(29, .one (.int .i64))]), (0, 11, [(53, .one .bool)]), (1, 12, [])], ext := Xt }
theorem Eq.limb_Shr (a : Sl) (n : Int) (R : Value → TW → Prop) (w : TW) : denF Pg Dc.limb_Shr Go.Proofs.Try.f84 (Go.Proofs.Try.f84.body.getD .skip) [a.v, .int .i64 n] w R = Sh.limb_Shr a n R w := by kernel_rfl
theorem Ct.limb_Shr {a : Sl} {n : Int} {w : TW} {X : Nat → Prop} {K : Tel (fl [.one .slice]) (TW → Prop)} (h : Sh.limb_Shr a n (Rt X [.one .slice] K w) w.here) : Ct Pg F.limb_Shr [a.v, .int .i64 n] w X [.one .slice] K :=
  ct_of_den (D := Dc.limb_Shr) (fn := Go.Proofs.Try.f84) Xt_ok follows_ok (by kernel_rfl) (by kernel_rfl) (by kernel_rfl) (Eq.mpr (Eq.limb_Shr a n _ _) h)
end Go.Proofs.Ytgcnflfempaliaa.Zg
end

section
set_option maxRecDepth 100000
namespace Go.Proofs.Ytgcnflfempaliaa.Zg
def Sh.modn_New (t : HL [.int .i64, .int .i64, .int .i64, .int .i64, .int .i64, .int .i64, .int .i64, .int .i64, .int .i64, .int .i64, .int .i64]) (R : Value → TW → Prop) (w : TW) : Prop :=
nwv w fun w1 =>
cl Pg F.hgcd_New [.agg #[.int .i64 t.1, .int .i64 t.2.1, .int .i64 t.2.2.1, .int .i64 t.2.2.2.1, .int .i64 t.2.2.2.2.1, .int .i64 t.2.2.2.2.2.1, .int .i64 t.2.2.2.2.2.2.1, .int .i64 t.2.2.2.2.2.2.2.1, .int .i64 t.2.2.2.2.2.2.2.2.1, .int .i64 t.2.2.2.2.2.2.2.2.2.1, .int .i64 t.2.2.2.2.2.2.2.2.2.2.1]] w1 [.one .ptr] fun (p : Option Addr) w2 =>
nwb w2 [.pointer p] T.modn_Engine fun b w3 =>
R (.pointer (some ⟨b, 0, none⟩)) w3
def Dc.modn_New : Dc := { N := 7, va := [(1, 7)], vb := [(7, 11)], ann := [], ext := Xt }
theorem Eq.modn_New (t : HL [.int .i64, .int .i64, .int .i64, .int .i64, .int .i64, .int .i64, .int .i64, .int .i64, .int .i64, .int .i64, .int .i64]) (R : Value → TW → Prop) (w : TW) : denF Pg Dc.modn_New Go.Proofs.Try.f52 (Go.Proofs.Try.f52.body.getD .skip) [.agg (encs [.int .i64, .int .i64, .int .i64, .int .i64, .int .i64, .int .i64, .int .i64, .int .i64, .int .i64, .int .i64, .int .i64] t).toArray] w R = Sh.modn_New t R w := by kernel_rfl
theorem Ct.modn_New {t : HL [.int .i64, .int .i64, .int .i64, .int .i64, .int .i64, .int .i64, .int .i64, .int .i64, .int .i64, .int .i64, .int .i64]} {w : TW} {X : Nat → Prop} {K : Tel (fl [.one .ptr]) (TW → Prop)} (h : Sh.modn_New t (Rt X [.one .ptr] K w) w.here) : Ct Pg F.modn_New [.agg (encs [.int .i64, .int .i64, .int .i64, .int .i64, .int .i64, .int .i64, .int .i64, .int .i64, .int .i64, .int .i64, .int .i64] t).toArray] w X [.one .ptr] K :=
  ct_of_den (D := Dc.modn_New) (fn := Go.Proofs.Try.f52) Xt_ok follows_ok (by kernel_rfl) (by kernel_rfl) (by kernel_rfl) (Eq.mpr (Eq.modn_New t _ _) h)
end Go.Proofs.Ytgcnflfempaliaa.Zg
end

section
set_option maxRecDepth 100000
namespace Go.Proofs.Ytgcnflfempaliaa.Zg
def Sh.mul_New (t : HL [.int .i64, .int .i64, .int .i64, .int .i64, .int .i64, .int .i64, .int .i64, .int .i64, .int .i64, .int .i64, .int .i64]) (R : Value → TW → Prop) (w : TW) : Prop :=
nwv w fun w1 =>
cl Pg F.toom_New [.agg #[.int .i64 t.1, .int .i64 t.2.1, .int .i64 t.2.2.1, .int .i64 t.2.2.2.1, .int .i64 t.2.2.2.2.1, .int .i64 t.2.2.2.2.2.1, .int .i64 t.2.2.2.2.2.2.1, .int .i64 t.2.2.2.2.2.2.2.1, .int .i64 t.2.2.2.2.2.2.2.2.1, .int .i64 t.2.2.2.2.2.2.2.2.2.1, .int .i64 t.2.2.2.2.2.2.2.2.2.2.1]] w1 [.one .ptr] fun (p : Option Addr) w2 =>
nwb w2 [.pointer p] T.mul_Engine fun b w3 =>
R (.pointer (some ⟨b, 0, none⟩)) w3
def Dc.mul_New : Dc := { N := 7, va := [(1, 7)], vb := [(7, 11)], ann := [], ext := Xt }
theorem Eq.mul_New (t : HL [.int .i64, .int .i64, .int .i64, .int .i64, .int .i64, .int .i64, .int .i64, .int .i64, .int .i64, .int .i64, .int .i64]) (R : Value → TW → Prop) (w : TW) : denF Pg Dc.mul_New Go.Proofs.Try.f97 (Go.Proofs.Try.f97.body.getD .skip) [.agg (encs [.int .i64, .int .i64, .int .i64, .int .i64, .int .i64, .int .i64, .int .i64, .int .i64, .int .i64, .int .i64, .int .i64] t).toArray] w R = Sh.mul_New t R w := by kernel_rfl
theorem Ct.mul_New {t : HL [.int .i64, .int .i64, .int .i64, .int .i64, .int .i64, .int .i64, .int .i64, .int .i64, .int .i64, .int .i64, .int .i64]} {w : TW} {X : Nat → Prop} {K : Tel (fl [.one .ptr]) (TW → Prop)} (h : Sh.mul_New t (Rt X [.one .ptr] K w) w.here) : Ct Pg F.mul_New [.agg (encs [.int .i64, .int .i64, .int .i64, .int .i64, .int .i64, .int .i64, .int .i64, .int .i64, .int .i64, .int .i64, .int .i64] t).toArray] w X [.one .ptr] K :=
  ct_of_den (D := Dc.mul_New) (fn := Go.Proofs.Try.f97) Xt_ok follows_ok (by kernel_rfl) (by kernel_rfl) (by kernel_rfl) (Eq.mpr (Eq.mul_New t _ _) h)
end Go.Proofs.Ytgcnflfempaliaa.Zg
end

section
set_option maxRecDepth 100000
namespace Go.Proofs.Ytgcnflfempaliaa.Zg
def Sh.num_Norm (a0 : Sl) (a1 : Bool) (R : Value → TW → Prop) (w : TW) : Prop :=
nwv w fun w1 =>
nwv w1 fun w2 =>
cl Pg F.limb_Norm [a0.v] w2.drew [.one .slice] fun (s : Sl) w3 =>
cl Pg F.num_made [s.v, .bool a1] w3 [.agg [.slice, .bool]] fun (r : Sl) (r1 : Bool) w4 =>
nwv w4 fun w5 =>
R (.agg #[r.v, .bool r1]) w5
def Dc.num_Norm : Dc := { N := 9, va := [(1, 9), (2, 11)], vb := [(9, 2), (11, 2)], ann := [], ext := Xt }
theorem Eq.num_Norm (a0 : Sl) (a1 : Bool) (R : Value → TW → Prop) (w : TW) : denF Pg Dc.num_Norm Go.Proofs.Try.f24 (Go.Proofs.Try.f24.body.getD .skip) [.agg #[a0.v, .bool a1]] w R = Sh.num_Norm a0 a1 R w := by kernel_rfl
theorem Ct.num_Norm {a0 : Sl} {a1 : Bool} {w : TW} {X : Nat → Prop} {K : Tel (fl [.agg [.slice, .bool]]) (TW → Prop)} (h : Sh.num_Norm a0 a1 (Rt X [.agg [.slice, .bool]] K w) w.here) : Ct Pg F.num_Norm [.agg #[a0.v, .bool a1]] w X [.agg [.slice, .bool]] K :=
  ct_of_den (D := Dc.num_Norm) (fn := Go.Proofs.Try.f24) Xt_ok follows_ok (by kernel_rfl) (by kernel_rfl) (by kernel_rfl) (Eq.mpr (Eq.num_Norm a0 a1 _ _) h)

def Sh.num_Of (n : Int) (R : Value → TW → Prop) (w : TW) : Prop :=
nwv w fun w1 =>
cond (decide ((n : Int) < 0)) (
bnd (wu (n)) fun n1 =>
bnd (wu (0 - n1)) fun n2 =>
cl Pg F.limb_One [.int .u64 n2] w1 [.one .slice] fun (s : Sl) w2 =>
cl Pg F.num_made [s.v, .bool true] w2 [.agg [.slice, .bool]] fun (r : Sl) (r1 : Bool) w3 =>
nwv w3 fun w4 =>
R (.agg #[r.v, .bool r1]) w4) (
bnd (wu (n)) fun n3 =>
cl Pg F.limb_One [.int .u64 n3] w1 [.one .slice] fun (s1 : Sl) w5 =>
cl Pg F.num_made [s1.v, .bool false] w5 [.agg [.slice, .bool]] fun (r2 : Sl) (r3 : Bool) w6 =>
nwv w6 fun w7 =>
R (.agg #[r2.v, .bool r3]) w7)
def Dc.num_Of : Dc := { N := 14, va := [(2, 14)], vb := [(14, 2)], ann := [], ext := Xt }
theorem Eq.num_Of (n : Int) (R : Value → TW → Prop) (w : TW) : denF Pg Dc.num_Of Go.Proofs.Try.f25 (Go.Proofs.Try.f25.body.getD .skip) [.int .i64 n] w R = Sh.num_Of n R w := by kernel_rfl
theorem Ct.num_Of {n : Int} {w : TW} {X : Nat → Prop} {K : Tel (fl [.agg [.slice, .bool]]) (TW → Prop)} (h : Sh.num_Of n (Rt X [.agg [.slice, .bool]] K w) w.here) : Ct Pg F.num_Of [.int .i64 n] w X [.agg [.slice, .bool]] K :=
  ct_of_den (D := Dc.num_Of) (fn := Go.Proofs.Try.f25) Xt_ok follows_ok (by kernel_rfl) (by kernel_rfl) (by kernel_rfl) (Eq.mpr (Eq.num_Of n _ _) h)

def Sh.num_Cmp (a0 : Sl) (a1 : Bool) (b0 : Sl) (b1 : Bool) (R : Value → TW → Prop) (w : TW) : Prop :=
nwv w fun w1 =>
nwv w1 fun w2 =>
cl Pg F.api_Int_Sign [.agg #[a0.v, .bool a1]] w2.drew [.one (.int .i64)] fun (r : Int) w3 =>
cl Pg F.api_Int_Sign [.agg #[b0.v, .bool b1]] w3 [.one (.int .i64)] fun (r1 : Int) w4 =>
cond ((r : Int) != r1) (
cond (decide ((r : Int) < r1)) (
R (.int .i64 (-1)) w4) (
R (.int .i64 1) w4)) (
cl Pg F.limb_Cmp [a0.v, b0.v] w4 [.one (.int .i64)] fun (r2 : Int) w5 =>
cond (decide ((r : Int) < 0)) (
bnd (wi (0 - r2)) fun n =>
R (.int .i64 n) w5) (
R (.int .i64 r2) w5))
def Dc.num_Cmp : Dc := { N := 28, va := [(2, 28), (3, 30)], vb := [(28, 2), (30, 2)], ann := [], ext := Xt }
theorem Eq.num_Cmp (a0 : Sl) (a1 : Bool) (b0 : Sl) (b1 : Bool) (R : Value → TW → Prop) (w : TW) : denF Pg Dc.num_Cmp Go.Proofs.Try.f50 (Go.Proofs.Try.f50.body.getD .skip) [.agg #[a0.v, .bool a1], .agg #[b0.v, .bool b1]] w R = Sh.num_Cmp a0 a1 b0 b1 R w := by kernel_rfl
theorem Ct.num_Cmp {a0 : Sl} {a1 : Bool} {b0 : Sl} {b1 : Bool} {w : TW} {X : Nat → Prop} {K : Tel (fl [.one (.int .i64)]) (TW → Prop)} (h : Sh.num_Cmp a0 a1 b0 b1 (Rt X [.one (.int .i64)] K w) w.here) : Ct Pg F.num_Cmp [.agg #[a0.v, .bool a1], .agg #[b0.v, .bool b1]] w X [.one (.int .i64)] K :=
  ct_of_den (D := Dc.num_Cmp) (fn := Go.Proofs.Try.f50) Xt_ok follows_ok (by kernel_rfl) (by kernel_rfl) (by kernel_rfl) (Eq.mpr (Eq.num_Cmp a0 a1 b0 b1 _ _) h)

def Sh.num_made (size : Sl) (neg : Bool) (R : Value → TW → Prop) (w : TW) : Prop :=
nwv w fun w1 =>
Jn [.slice, .bool] (fun J0 =>
cond neg (
cl Pg F.api_Nat_Zero [size.v] w1 [.one .bool] fun (ok : Bool) w2 =>
nwv w2 fun w3 =>
J0 size (!ok) w3) (
nwv w1 fun w4 =>
J0 size false w4)) fun (x : Sl) (x1 : Bool) w5 =>
R (.agg #[x.v, .bool x1]) w5
def Dc.num_made : Dc := { N := 13, va := [(4, 13)], vb := [(13, 2)], ann := [(0, 1, [(13, .one .slice), (14, .one .bool)])], ext := Xt }
theorem Eq.num_made (size : Sl) (neg : Bool) (R : Value → TW → Prop) (w : TW) : denF Pg Dc.num_made Go.Proofs.Try.f61 (Go.Proofs.Try.f61.body.getD .skip) [size.v, .bool neg] w R = Sh.num_made size neg R w := by kernel_rfl
theorem Ct.num_made {size : Sl} {neg : Bool} {w : TW} {X : Nat → Prop} {K : Tel (fl [.agg [.slice, .bool]]) (TW → Prop)} (h : Sh.num_made size neg (Rt X [.agg [.slice, .bool]] K w) w.here) : Ct Pg F.num_made [size.v, .bool neg] w X [.agg [.slice, .bool]] K :=
  ct_of_den (D := Dc.num_made) (fn := Go.Proofs.Try.f61) Xt_ok follows_ok (by kernel_rfl) (by kernel_rfl) (by kernel_rfl) (Eq.mpr (Eq.num_made size neg _ _) h)

def Sh.num_Add (a0 : Sl) (a1 : Bool) (b0 : Sl) (b1 : Bool) (R : Value → TW → Prop) (w : TW) : Prop :=
nwv w fun w1 =>
nwv w1 fun w2 =>
nwv w2 fun w3 =>
cond (a1 == b1) (
cl Pg F.limb_Add [a0.v, b0.v] w3.drew [.one .slice] fun (s : Sl) w4 =>
cl Pg F.num_made [s.v, .bool a1] w4 [.agg [.slice, .bool]] fun (r : Sl) (r1 : Bool) w5 =>
nwv w5 fun w6 =>
R (.agg #[r.v, .bool r1]) w6) (
cl Pg F.limb_Sub [a0.v, b0.v] w3 [.one .slice, .one .bool] fun (s1 : Sl) (ok : Bool) w7 =>
cond ok (
cl Pg F.num_made [s1.v, .bool a1] w7 [.agg [.slice, .bool]] fun (r2 : Sl) (r3 : Bool) w8 =>
nwv w8 fun w9 =>
R (.agg #[r2.v, .bool r3]) w9) (
cl Pg F.limb_Sub [b0.v, a0.v] w7 [.one .slice, .one .bool] fun (s2 : Sl) (_ : Bool) w10 =>
cl Pg F.num_made [s2.v, .bool b1] w10 [.agg [.slice, .bool]] fun (r4 : Sl) (r5 : Bool) w11 =>
nwv w11 fun w12 =>
R (.agg #[r4.v, .bool r5]) w12))
def Dc.num_Add : Dc := { N := 47, va := [(2, 47), (3, 49), (4, 51)], vb := [(47, 2), (49, 2), (51, 2)], ann := [], ext := Xt }
theorem Eq.num_Add (a0 : Sl) (a1 : Bool) (b0 : Sl) (b1 : Bool) (R : Value → TW → Prop) (w : TW) : denF Pg Dc.num_Add Go.Proofs.Try.f72 (Go.Proofs.Try.f72.body.getD .skip) [.agg #[a0.v, .bool a1], .agg #[b0.v, .bool b1]] w R = Sh.num_Add a0 a1 b0 b1 R w := by kernel_rfl
theorem Ct.num_Add {a0 : Sl} {a1 : Bool} {b0 : Sl} {b1 : Bool} {w : TW} {X : Nat → Prop} {K : Tel (fl [.agg [.slice, .bool]]) (TW → Prop)} (h : Sh.num_Add a0 a1 b0 b1 (Rt X [.agg [.slice, .bool]] K w) w.here) : Ct Pg F.num_Add [.agg #[a0.v, .bool a1], .agg #[b0.v, .bool b1]] w X [.agg [.slice, .bool]] K :=
  ct_of_den (D := Dc.num_Add) (fn := Go.Proofs.Try.f72) Xt_ok follows_ok (by kernel_rfl) (by kernel_rfl) (by kernel_rfl) (Eq.mpr (Eq.num_Add a0 a1 b0 b1 _ _) h)

def Sh.num_New (t : HL [.int .i64, .int .i64, .int .i64, .int .i64, .int .i64, .int .i64, .int .i64, .int .i64, .int .i64, .int .i64, .int .i64]) (R : Value → TW → Prop) (w : TW) : Prop :=
nwv w fun w1 =>
cl Pg F.radix_New [.agg #[.int .i64 t.1, .int .i64 t.2.1, .int .i64 t.2.2.1, .int .i64 t.2.2.2.1, .int .i64 t.2.2.2.2.1, .int .i64 t.2.2.2.2.2.1, .int .i64 t.2.2.2.2.2.2.1, .int .i64 t.2.2.2.2.2.2.2.1, .int .i64 t.2.2.2.2.2.2.2.2.1, .int .i64 t.2.2.2.2.2.2.2.2.2.1, .int .i64 t.2.2.2.2.2.2.2.2.2.2.1]] w1 [.one .ptr] fun (p : Option Addr) w2 =>
nwb w2 [.pointer p] T.num_Engine fun b w3 =>
R (.pointer (some ⟨b, 0, none⟩)) w3
def Dc.num_New : Dc := { N := 7, va := [(1, 7)], vb := [(7, 11)], ann := [], ext := Xt }
theorem Eq.num_New (t : HL [.int .i64, .int .i64, .int .i64, .int .i64, .int .i64, .int .i64, .int .i64, .int .i64, .int .i64, .int .i64, .int .i64]) (R : Value → TW → Prop) (w : TW) : denF Pg Dc.num_New Go.Proofs.Try.f91 (Go.Proofs.Try.f91.body.getD .skip) [.agg (encs [.int .i64, .int .i64, .int .i64, .int .i64, .int .i64, .int .i64, .int .i64, .int .i64, .int .i64, .int .i64, .int .i64] t).toArray] w R = Sh.num_New t R w := by kernel_rfl
theorem Ct.num_New {t : HL [.int .i64, .int .i64, .int .i64, .int .i64, .int .i64, .int .i64, .int .i64, .int .i64, .int .i64, .int .i64, .int .i64]} {w : TW} {X : Nat → Prop} {K : Tel (fl [.one .ptr]) (TW → Prop)} (h : Sh.num_New t (Rt X [.one .ptr] K w) w.here) : Ct Pg F.num_New [.agg (encs [.int .i64, .int .i64, .int .i64, .int .i64, .int .i64, .int .i64, .int .i64, .int .i64, .int .i64, .int .i64, .int .i64] t).toArray] w X [.one .ptr] K :=
  ct_of_den (D := Dc.num_New) (fn := Go.Proofs.Try.f91) Xt_ok follows_ok (by kernel_rfl) (by kernel_rfl) (by kernel_rfl) (Eq.mpr (Eq.num_New t _ _) h)
end Go.Proofs.Ytgcnflfempaliaa.Zg
end

section
set_option maxRecDepth 100000
namespace Go.Proofs.Ytgcnflfempaliaa.Zg
def Sh.polyz_Same (a : Sl) (b : Sl) (R : Value → TW → Prop) (w : TW) : Prop :=
Jn [] (fun J0 =>
Lp [.int .i64] (fun (i : Int) w1 C0 =>
Jn [.bool] (fun J1 =>
cond (decide ((i : Int) < (a.n : Int))) (
J1 true w1) (
J1 (decide ((i : Int) < (b.n : Int))) w1)) fun (x : Bool) w2 =>
cond x (
cl Pg F.polyz_at [a.v, .int .i64 i] w2 [.agg [.slice, .bool]] fun (r : Sl) (r1 : Bool) w3 =>
cl Pg F.polyz_at [b.v, .int .i64 i] w3 [.agg [.slice, .bool]] fun (r2 : Sl) (r3 : Bool) w4 =>
cl Pg F.num_Cmp [.agg #[r.v, .bool r1], .agg #[r2.v, .bool r3]] w4 [.one (.int .i64)] fun (r4 : Int) w5 =>
cond ((r4 : Int) != 0) (
R (.bool false) w5) (
bnd (wi (i + 1)) fun n =>
C0 n w5)) (
J0 w2)) 0 w) fun  w6 =>
R (.bool true) w6
def Dc.polyz_Same : Dc := { N := 26, va := [], vb := [], ann := [(2, 0, []), (3, 2, [(5, .one (.int .i64))]), (0, 2, [(15, .one .bool)])], ext := Xt }
theorem Eq.polyz_Same (a : Sl) (b : Sl) (R : Value → TW → Prop) (w : TW) : denF Pg Dc.polyz_Same Go.Proofs.Try.f20 (Go.Proofs.Try.f20.body.getD .skip) [a.v, b.v] w R = Sh.polyz_Same a b R w := by kernel_rfl
theorem Ct.polyz_Same {a : Sl} {b : Sl} {w : TW} {X : Nat → Prop} {K : Tel (fl [.one .bool]) (TW → Prop)} (h : Sh.polyz_Same a b (Rt X [.one .bool] K w) w.here) : Ct Pg F.polyz_Same [a.v, b.v] w X [.one .bool] K :=
  ct_of_den (D := Dc.polyz_Same) (fn := Go.Proofs.Try.f20) Xt_ok follows_ok (by kernel_rfl) (by kernel_rfl) (by kernel_rfl) (Eq.mpr (Eq.polyz_Same a b _ _) h)

def Sh.polyz_New (t : HL [.int .i64, .int .i64, .int .i64, .int .i64, .int .i64, .int .i64, .int .i64, .int .i64, .int .i64, .int .i64, .int .i64]) (R : Value → TW → Prop) (w : TW) : Prop :=
nwv w fun w1 =>
cl Pg F.modn_New [.agg #[.int .i64 t.1, .int .i64 t.2.1, .int .i64 t.2.2.1, .int .i64 t.2.2.2.1, .int .i64 t.2.2.2.2.1, .int .i64 t.2.2.2.2.2.1, .int .i64 t.2.2.2.2.2.2.1, .int .i64 t.2.2.2.2.2.2.2.1, .int .i64 t.2.2.2.2.2.2.2.2.1, .int .i64 t.2.2.2.2.2.2.2.2.2.1, .int .i64 t.2.2.2.2.2.2.2.2.2.2.1]] w1 [.one .ptr] fun (p : Option Addr) w2 =>
nwb w2 [.pointer p] T.polyz_Engine fun b w3 =>
R (.pointer (some ⟨b, 0, none⟩)) w3
def Dc.polyz_New : Dc := { N := 7, va := [(1, 7)], vb := [(7, 11)], ann := [], ext := Xt }
theorem Eq.polyz_New (t : HL [.int .i64, .int .i64, .int .i64, .int .i64, .int .i64, .int .i64, .int .i64, .int .i64, .int .i64, .int .i64, .int .i64]) (R : Value → TW → Prop) (w : TW) : denF Pg Dc.polyz_New Go.Proofs.Try.f22 (Go.Proofs.Try.f22.body.getD .skip) [.agg (encs [.int .i64, .int .i64, .int .i64, .int .i64, .int .i64, .int .i64, .int .i64, .int .i64, .int .i64, .int .i64, .int .i64] t).toArray] w R = Sh.polyz_New t R w := by kernel_rfl
theorem Ct.polyz_New {t : HL [.int .i64, .int .i64, .int .i64, .int .i64, .int .i64, .int .i64, .int .i64, .int .i64, .int .i64, .int .i64, .int .i64]} {w : TW} {X : Nat → Prop} {K : Tel (fl [.one .ptr]) (TW → Prop)} (h : Sh.polyz_New t (Rt X [.one .ptr] K w) w.here) : Ct Pg F.polyz_New [.agg (encs [.int .i64, .int .i64, .int .i64, .int .i64, .int .i64, .int .i64, .int .i64, .int .i64, .int .i64, .int .i64, .int .i64] t).toArray] w X [.one .ptr] K :=
  ct_of_den (D := Dc.polyz_New) (fn := Go.Proofs.Try.f22) Xt_ok follows_ok (by kernel_rfl) (by kernel_rfl) (by kernel_rfl) (Eq.mpr (Eq.polyz_New t _ _) h)

def Sh.polyz_Norm (a : Sl) (R : Value → TW → Prop) (w : TW) : Prop :=
mks w (a.n : Int) (a.n : Int) T.api_Int 32 [.slice none 0 0, .bool false] fun s w1 =>
Jn [] (fun J0 =>
Lp [.int .i64] (fun (x : Int) w2 C0 =>
cond (decide ((x : Int) < (a.n : Int))) (
ixa a x 2 fun a1 =>
ldc (.slice) w2 (a1.add 0) fun (v : Sl) =>
ldc (.bool) w2 (a1.add 1) fun (v1 : Bool) =>
nwv w2 fun w3 =>
nwv w3 fun w4 =>
cl Pg F.num_Norm [.agg #[v.v, .bool v1]] w4 [.agg [.slice, .bool]] fun (r : Sl) (r1 : Bool) w5 =>
ixa s x 2 fun a2 =>
stc w5 a2 r.v fun w6 =>
stc w6 (a2.add 1) (.bool r1) fun w7 =>
bnd (wi (x + 1)) fun n =>
C0 n w7) (
J0 w2)) 0 w1) fun  w8 =>
cl Pg F.polyz_trim [s.v] w8 [.one .slice] fun (s1 : Sl) w9 =>
R (s1.v) w9
def Dc.polyz_Norm : Dc := { N := 24, va := [(5, 24)], vb := [(24, 2)], ann := [(2, 0, []), (3, 3, [(11, .one (.int .i64))])], ext := Xt }
theorem Eq.polyz_Norm (a : Sl) (R : Value → TW → Prop) (w : TW) : denF Pg Dc.polyz_Norm Go.Proofs.Try.f42 (Go.Proofs.Try.f42.body.getD .skip) [a.v] w R = Sh.polyz_Norm a R w := by kernel_rfl
theorem Ct.polyz_Norm {a : Sl} {w : TW} {X : Nat → Prop} {K : Tel (fl [.one .slice]) (TW → Prop)} (h : Sh.polyz_Norm a (Rt X [.one .slice] K w) w.here) : Ct Pg F.polyz_Norm [a.v] w X [.one .slice] K :=
  ct_of_den (D := Dc.polyz_Norm) (fn := Go.Proofs.Try.f42) Xt_ok follows_ok (by kernel_rfl) (by kernel_rfl) (by kernel_rfl) (Eq.mpr (Eq.polyz_Norm a _ _) h)

def Sh.polyz_Height (a : Sl) (R : Value → TW → Prop) (w : TW) : Prop :=
Jn [.int .i64] (fun J0 =>
Lp [.int .i64, .int .i64] (fun (n : Int) (x : Int) w1 C0 =>
cond (decide ((x : Int) < (a.n : Int))) (
ixa a x 2 fun a1 =>
ldc (.slice) w1 (a1.add 0) fun (v : Sl) =>
ldc (.bool) w1 (a1.add 1) fun (_ : Bool) =>
nwv w1 fun w2 =>
nwv w2 fun w3 =>
cl Pg F.api_Nat_Bits [v.v] w3 [.one (.int .i64)] fun (r : Int) w4 =>
bnd (if (r : Int) > n then r else n) fun n1 =>
bnd (wi (x + 1)) fun n2 =>
C0 n1 n2 w4) (
J0 n w1)) 0 0 w) fun (n3 : Int) w5 =>
R (.int .i64 n3) w5
def Dc.polyz_Height : Dc := { N := 19, va := [(5, 19)], vb := [(19, 2)], ann := [(2, 0, [(3, .one (.int .i64))]), (3, 3, [(3, .one (.int .i64)), (8, .one (.int .i64))])], ext := Xt }
theorem Eq.polyz_Height (a : Sl) (R : Value → TW → Prop) (w : TW) : denF Pg Dc.polyz_Height Go.Proofs.Try.f43 (Go.Proofs.Try.f43.body.getD .skip) [a.v] w R = Sh.polyz_Height a R w := by kernel_rfl
theorem Ct.polyz_Height {a : Sl} {w : TW} {X : Nat → Prop} {K : Tel (fl [.one (.int .i64)]) (TW → Prop)} (h : Sh.polyz_Height a (Rt X [.one (.int .i64)] K w) w.here) : Ct Pg F.polyz_Height [a.v] w X [.one (.int .i64)] K :=
  ct_of_den (D := Dc.polyz_Height) (fn := Go.Proofs.Try.f43) Xt_ok follows_ok (by kernel_rfl) (by kernel_rfl) (by kernel_rfl) (Eq.mpr (Eq.polyz_Height a _ _) h)

def Sh.polyz_at (a : Sl) (i : Int) (R : Value → TW → Prop) (w : TW) : Prop :=
nwv w fun w1 =>
cond (decide ((i : Int) < (a.n : Int))) (
ixa a i 2 fun a1 =>
ldc (.slice) w1 (a1.add 0) fun (v : Sl) =>
ldc (.bool) w1 (a1.add 1) fun (v1 : Bool) =>
nwv w1 fun w2 =>
R (.agg #[v.v, .bool v1]) w2) (
nwv w1 fun w3 =>
R (.agg #[.slice none 0 0, .bool false]) w3)
def Dc.polyz_at : Dc := { N := 14, va := [(4, 14)], vb := [(14, 2)], ann := [], ext := Xt }
theorem Eq.polyz_at (a : Sl) (i : Int) (R : Value → TW → Prop) (w : TW) : denF Pg Dc.polyz_at Go.Proofs.Try.f51 (Go.Proofs.Try.f51.body.getD .skip) [a.v, .int .i64 i] w R = Sh.polyz_at a i R w := by kernel_rfl
theorem Ct.polyz_at {a : Sl} {i : Int} {w : TW} {X : Nat → Prop} {K : Tel (fl [.agg [.slice, .bool]]) (TW → Prop)} (h : Sh.polyz_at a i (Rt X [.agg [.slice, .bool]] K w) w.here) : Ct Pg F.polyz_at [a.v, .int .i64 i] w X [.agg [.slice, .bool]] K :=
  ct_of_den (D := Dc.polyz_at) (fn := Go.Proofs.Try.f51) Xt_ok follows_ok (by kernel_rfl) (by kernel_rfl) (by kernel_rfl) (Eq.mpr (Eq.polyz_at a i _ _) h)

def Sh.polyz_trim (a : Sl) (R : Value → TW → Prop) (w : TW) : Prop :=
Jn [.slice] (fun J0 =>
Lp [.slice] (fun (a1 : Sl) w1 C0 =>
Jn [.bool] (fun J1 =>
cond (decide (((a1.n : Int) : Int) > 0)) (
bnd (wi ((a1.n : Int) - 1)) fun n =>
ixa a1 n 2 fun a2 =>
ldc (.slice) w1 a2 fun (v : Sl) =>
cl Pg F.api_Nat_Zero [v.v] w1 [.one .bool] fun (ok : Bool) w2 =>
J1 ok w2) (
J1 false w1)) fun (x : Bool) w3 =>
cond x (
bnd (wi ((a1.n : Int) - 1)) fun n1 =>
slc a1 0 n1 2 fun s =>
C0 s w3) (
J0 a1 w3)) a w) fun (a3 : Sl) w4 =>
R (a3.v) w4
def Dc.polyz_trim : Dc := { N := 22, va := [], vb := [], ann := [(2, 0, [(0, .one .slice)]), (3, 1, [(0, .one .slice)]), (0, 1, [(15, .one .bool)])], ext := Xt }
theorem Eq.polyz_trim (a : Sl) (R : Value → TW → Prop) (w : TW) : denF Pg Dc.polyz_trim Go.Proofs.Try.f71 (Go.Proofs.Try.f71.body.getD .skip) [a.v] w R = Sh.polyz_trim a R w := by kernel_rfl
theorem Ct.polyz_trim {a : Sl} {w : TW} {X : Nat → Prop} {K : Tel (fl [.one .slice]) (TW → Prop)} (h : Sh.polyz_trim a (Rt X [.one .slice] K w) w.here) : Ct Pg F.polyz_trim [a.v] w X [.one .slice] K :=
  ct_of_den (D := Dc.polyz_trim) (fn := Go.Proofs.Try.f71) Xt_ok follows_ok (by kernel_rfl) (by kernel_rfl) (by kernel_rfl) (Eq.mpr (Eq.polyz_trim a _ _) h)
end Go.Proofs.Ytgcnflfempaliaa.Zg
end

section
set_option maxRecDepth 100000
namespace Go.Proofs.Ytgcnflfempaliaa.Zg
def Sh.power_New (t : HL [.int .i64, .int .i64, .int .i64, .int .i64, .int .i64, .int .i64, .int .i64, .int .i64, .int .i64, .int .i64, .int .i64]) (R : Value → TW → Prop) (w : TW) : Prop :=
nwv w fun w1 =>
cl Pg F.num_New [.agg #[.int .i64 t.1, .int .i64 t.2.1, .int .i64 t.2.2.1, .int .i64 t.2.2.2.1, .int .i64 t.2.2.2.2.1, .int .i64 t.2.2.2.2.2.1, .int .i64 t.2.2.2.2.2.2.1, .int .i64 t.2.2.2.2.2.2.2.1, .int .i64 t.2.2.2.2.2.2.2.2.1, .int .i64 t.2.2.2.2.2.2.2.2.2.1, .int .i64 t.2.2.2.2.2.2.2.2.2.2.1]] w1 [.one .ptr] fun (p : Option Addr) w2 =>
nwb w2 [.pointer p] T.power_Engine fun b w3 =>
R (.pointer (some ⟨b, 0, none⟩)) w3
def Dc.power_New : Dc := { N := 7, va := [(1, 7)], vb := [(7, 11)], ann := [], ext := Xt }
theorem Eq.power_New (t : HL [.int .i64, .int .i64, .int .i64, .int .i64, .int .i64, .int .i64, .int .i64, .int .i64, .int .i64, .int .i64, .int .i64]) (R : Value → TW → Prop) (w : TW) : denF Pg Dc.power_New Go.Proofs.Try.f90 (Go.Proofs.Try.f90.body.getD .skip) [.agg (encs [.int .i64, .int .i64, .int .i64, .int .i64, .int .i64, .int .i64, .int .i64, .int .i64, .int .i64, .int .i64, .int .i64] t).toArray] w R = Sh.power_New t R w := by kernel_rfl
theorem Ct.power_New {t : HL [.int .i64, .int .i64, .int .i64, .int .i64, .int .i64, .int .i64, .int .i64, .int .i64, .int .i64, .int .i64, .int .i64]} {w : TW} {X : Nat → Prop} {K : Tel (fl [.one .ptr]) (TW → Prop)} (h : Sh.power_New t (Rt X [.one .ptr] K w) w.here) : Ct Pg F.power_New [.agg (encs [.int .i64, .int .i64, .int .i64, .int .i64, .int .i64, .int .i64, .int .i64, .int .i64, .int .i64, .int .i64, .int .i64] t).toArray] w X [.one .ptr] K :=
  ct_of_den (D := Dc.power_New) (fn := Go.Proofs.Try.f90) Xt_ok follows_ok (by kernel_rfl) (by kernel_rfl) (by kernel_rfl) (Eq.mpr (Eq.power_New t _ _) h)
end Go.Proofs.Ytgcnflfempaliaa.Zg
end

section
set_option maxRecDepth 100000
namespace Go.Proofs.Ytgcnflfempaliaa.Zg
def Sh.radix_New (t : HL [.int .i64, .int .i64, .int .i64, .int .i64, .int .i64, .int .i64, .int .i64, .int .i64, .int .i64, .int .i64, .int .i64]) (R : Value → TW → Prop) (w : TW) : Prop :=
nwv w fun w1 =>
cl Pg F.root_New [.agg #[.int .i64 t.1, .int .i64 t.2.1, .int .i64 t.2.2.1, .int .i64 t.2.2.2.1, .int .i64 t.2.2.2.2.1, .int .i64 t.2.2.2.2.2.1, .int .i64 t.2.2.2.2.2.2.1, .int .i64 t.2.2.2.2.2.2.2.1, .int .i64 t.2.2.2.2.2.2.2.2.1, .int .i64 t.2.2.2.2.2.2.2.2.2.1, .int .i64 t.2.2.2.2.2.2.2.2.2.2.1]] w1 [.one .ptr] fun (p : Option Addr) w2 =>
nwb w2 [.pointer p] T.radix_Engine fun b w3 =>
R (.pointer (some ⟨b, 0, none⟩)) w3
def Dc.radix_New : Dc := { N := 7, va := [(1, 7)], vb := [(7, 11)], ann := [], ext := Xt }
theorem Eq.radix_New (t : HL [.int .i64, .int .i64, .int .i64, .int .i64, .int .i64, .int .i64, .int .i64, .int .i64, .int .i64, .int .i64, .int .i64]) (R : Value → TW → Prop) (w : TW) : denF Pg Dc.radix_New Go.Proofs.Try.f92 (Go.Proofs.Try.f92.body.getD .skip) [.agg (encs [.int .i64, .int .i64, .int .i64, .int .i64, .int .i64, .int .i64, .int .i64, .int .i64, .int .i64, .int .i64, .int .i64] t).toArray] w R = Sh.radix_New t R w := by kernel_rfl
theorem Ct.radix_New {t : HL [.int .i64, .int .i64, .int .i64, .int .i64, .int .i64, .int .i64, .int .i64, .int .i64, .int .i64, .int .i64, .int .i64]} {w : TW} {X : Nat → Prop} {K : Tel (fl [.one .ptr]) (TW → Prop)} (h : Sh.radix_New t (Rt X [.one .ptr] K w) w.here) : Ct Pg F.radix_New [.agg (encs [.int .i64, .int .i64, .int .i64, .int .i64, .int .i64, .int .i64, .int .i64, .int .i64, .int .i64, .int .i64, .int .i64] t).toArray] w X [.one .ptr] K :=
  ct_of_den (D := Dc.radix_New) (fn := Go.Proofs.Try.f92) Xt_ok follows_ok (by kernel_rfl) (by kernel_rfl) (by kernel_rfl) (Eq.mpr (Eq.radix_New t _ _) h)
end Go.Proofs.Ytgcnflfempaliaa.Zg
end

section
set_option maxRecDepth 100000
namespace Go.Proofs.Ytgcnflfempaliaa.Zg
def Sh.recip_New (t : HL [.int .i64, .int .i64, .int .i64, .int .i64, .int .i64, .int .i64, .int .i64, .int .i64, .int .i64, .int .i64, .int .i64]) (R : Value → TW → Prop) (w : TW) : Prop :=
nwv w fun w1 =>
cl Pg F.divs_New [.agg #[.int .i64 t.1, .int .i64 t.2.1, .int .i64 t.2.2.1, .int .i64 t.2.2.2.1, .int .i64 t.2.2.2.2.1, .int .i64 t.2.2.2.2.2.1, .int .i64 t.2.2.2.2.2.2.1, .int .i64 t.2.2.2.2.2.2.2.1, .int .i64 t.2.2.2.2.2.2.2.2.1, .int .i64 t.2.2.2.2.2.2.2.2.2.1, .int .i64 t.2.2.2.2.2.2.2.2.2.2.1]] w1 [.one .ptr] fun (p : Option Addr) w2 =>
nwb w2 [.pointer p] T.recip_Engine fun b w3 =>
R (.pointer (some ⟨b, 0, none⟩)) w3
def Dc.recip_New : Dc := { N := 7, va := [(1, 7)], vb := [(7, 11)], ann := [], ext := Xt }
theorem Eq.recip_New (t : HL [.int .i64, .int .i64, .int .i64, .int .i64, .int .i64, .int .i64, .int .i64, .int .i64, .int .i64, .int .i64, .int .i64]) (R : Value → TW → Prop) (w : TW) : denF Pg Dc.recip_New Go.Proofs.Try.f95 (Go.Proofs.Try.f95.body.getD .skip) [.agg (encs [.int .i64, .int .i64, .int .i64, .int .i64, .int .i64, .int .i64, .int .i64, .int .i64, .int .i64, .int .i64, .int .i64] t).toArray] w R = Sh.recip_New t R w := by kernel_rfl
theorem Ct.recip_New {t : HL [.int .i64, .int .i64, .int .i64, .int .i64, .int .i64, .int .i64, .int .i64, .int .i64, .int .i64, .int .i64, .int .i64]} {w : TW} {X : Nat → Prop} {K : Tel (fl [.one .ptr]) (TW → Prop)} (h : Sh.recip_New t (Rt X [.one .ptr] K w) w.here) : Ct Pg F.recip_New [.agg (encs [.int .i64, .int .i64, .int .i64, .int .i64, .int .i64, .int .i64, .int .i64, .int .i64, .int .i64, .int .i64, .int .i64] t).toArray] w X [.one .ptr] K :=
  ct_of_den (D := Dc.recip_New) (fn := Go.Proofs.Try.f95) Xt_ok follows_ok (by kernel_rfl) (by kernel_rfl) (by kernel_rfl) (Eq.mpr (Eq.recip_New t _ _) h)
end Go.Proofs.Ytgcnflfempaliaa.Zg
end

section
set_option maxRecDepth 100000
namespace Go.Proofs.Ytgcnflfempaliaa.Zg
def Sh.root_New (t : HL [.int .i64, .int .i64, .int .i64, .int .i64, .int .i64, .int .i64, .int .i64, .int .i64, .int .i64, .int .i64, .int .i64]) (R : Value → TW → Prop) (w : TW) : Prop :=
nwv w fun w1 =>
cl Pg F.div_New [.agg #[.int .i64 t.1, .int .i64 t.2.1, .int .i64 t.2.2.1, .int .i64 t.2.2.2.1, .int .i64 t.2.2.2.2.1, .int .i64 t.2.2.2.2.2.1, .int .i64 t.2.2.2.2.2.2.1, .int .i64 t.2.2.2.2.2.2.2.1, .int .i64 t.2.2.2.2.2.2.2.2.1, .int .i64 t.2.2.2.2.2.2.2.2.2.1, .int .i64 t.2.2.2.2.2.2.2.2.2.2.1]] w1 [.one .ptr] fun (p : Option Addr) w2 =>
nwb w2 [.pointer p] T.root_Engine fun b w3 =>
R (.pointer (some ⟨b, 0, none⟩)) w3
def Dc.root_New : Dc := { N := 7, va := [(1, 7)], vb := [(7, 11)], ann := [], ext := Xt }
theorem Eq.root_New (t : HL [.int .i64, .int .i64, .int .i64, .int .i64, .int .i64, .int .i64, .int .i64, .int .i64, .int .i64, .int .i64, .int .i64]) (R : Value → TW → Prop) (w : TW) : denF Pg Dc.root_New Go.Proofs.Try.f93 (Go.Proofs.Try.f93.body.getD .skip) [.agg (encs [.int .i64, .int .i64, .int .i64, .int .i64, .int .i64, .int .i64, .int .i64, .int .i64, .int .i64, .int .i64, .int .i64] t).toArray] w R = Sh.root_New t R w := by kernel_rfl
theorem Ct.root_New {t : HL [.int .i64, .int .i64, .int .i64, .int .i64, .int .i64, .int .i64, .int .i64, .int .i64, .int .i64, .int .i64, .int .i64]} {w : TW} {X : Nat → Prop} {K : Tel (fl [.one .ptr]) (TW → Prop)} (h : Sh.root_New t (Rt X [.one .ptr] K w) w.here) : Ct Pg F.root_New [.agg (encs [.int .i64, .int .i64, .int .i64, .int .i64, .int .i64, .int .i64, .int .i64, .int .i64, .int .i64, .int .i64, .int .i64] t).toArray] w X [.one .ptr] K :=
  ct_of_den (D := Dc.root_New) (fn := Go.Proofs.Try.f93) Xt_ok follows_ok (by kernel_rfl) (by kernel_rfl) (by kernel_rfl) (Eq.mpr (Eq.root_New t _ _) h)
end Go.Proofs.Ytgcnflfempaliaa.Zg
end

section
set_option maxRecDepth 100000
namespace Go.Proofs.Ytgcnflfempaliaa.Zg
def Sh.school_New (t : HL [.int .i64, .int .i64, .int .i64, .int .i64, .int .i64, .int .i64, .int .i64, .int .i64, .int .i64, .int .i64, .int .i64]) (R : Value → TW → Prop) (w : TW) : Prop :=
nwv w fun w1 =>
cl Pg F.table_New [.agg #[.int .i64 t.1, .int .i64 t.2.1, .int .i64 t.2.2.1, .int .i64 t.2.2.2.1, .int .i64 t.2.2.2.2.1, .int .i64 t.2.2.2.2.2.1, .int .i64 t.2.2.2.2.2.2.1, .int .i64 t.2.2.2.2.2.2.2.1, .int .i64 t.2.2.2.2.2.2.2.2.1, .int .i64 t.2.2.2.2.2.2.2.2.2.1, .int .i64 t.2.2.2.2.2.2.2.2.2.2.1]] w1 [.one .ptr] fun (p : Option Addr) w2 =>
nwb w2 [.pointer p] T.school_Engine fun b w3 =>
R (.pointer (some ⟨b, 0, none⟩)) w3
def Dc.school_New : Dc := { N := 7, va := [(1, 7)], vb := [(7, 11)], ann := [], ext := Xt }
theorem Eq.school_New (t : HL [.int .i64, .int .i64, .int .i64, .int .i64, .int .i64, .int .i64, .int .i64, .int .i64, .int .i64, .int .i64, .int .i64]) (R : Value → TW → Prop) (w : TW) : denF Pg Dc.school_New Go.Proofs.Try.f100 (Go.Proofs.Try.f100.body.getD .skip) [.agg (encs [.int .i64, .int .i64, .int .i64, .int .i64, .int .i64, .int .i64, .int .i64, .int .i64, .int .i64, .int .i64, .int .i64] t).toArray] w R = Sh.school_New t R w := by kernel_rfl
theorem Ct.school_New {t : HL [.int .i64, .int .i64, .int .i64, .int .i64, .int .i64, .int .i64, .int .i64, .int .i64, .int .i64, .int .i64, .int .i64]} {w : TW} {X : Nat → Prop} {K : Tel (fl [.one .ptr]) (TW → Prop)} (h : Sh.school_New t (Rt X [.one .ptr] K w) w.here) : Ct Pg F.school_New [.agg (encs [.int .i64, .int .i64, .int .i64, .int .i64, .int .i64, .int .i64, .int .i64, .int .i64, .int .i64, .int .i64, .int .i64] t).toArray] w X [.one .ptr] K :=
  ct_of_den (D := Dc.school_New) (fn := Go.Proofs.Try.f100) Xt_ok follows_ok (by kernel_rfl) (by kernel_rfl) (by kernel_rfl) (Eq.mpr (Eq.school_New t _ _) h)
end Go.Proofs.Ytgcnflfempaliaa.Zg
end

section
set_option maxRecDepth 100000
namespace Go.Proofs.Ytgcnflfempaliaa.Zg
def Sh.table_New (t : HL [.int .i64, .int .i64, .int .i64, .int .i64, .int .i64, .int .i64, .int .i64, .int .i64, .int .i64, .int .i64, .int .i64]) (R : Value → TW → Prop) (w : TW) : Prop :=
nwv w fun w1 =>
cl Pg F.table_Clamp [.agg #[.int .i64 t.1, .int .i64 t.2.1, .int .i64 t.2.2.1, .int .i64 t.2.2.2.1, .int .i64 t.2.2.2.2.1, .int .i64 t.2.2.2.2.2.1, .int .i64 t.2.2.2.2.2.2.1, .int .i64 t.2.2.2.2.2.2.2.1, .int .i64 t.2.2.2.2.2.2.2.2.1, .int .i64 t.2.2.2.2.2.2.2.2.2.1, .int .i64 t.2.2.2.2.2.2.2.2.2.2.1]] w1 [.agg [.int .i64, .int .i64, .int .i64, .int .i64, .int .i64, .int .i64, .int .i64, .int .i64, .int .i64, .int .i64, .int .i64]] fun (r : Int) (r1 : Int) (r2 : Int) (r3 : Int) (r4 : Int) (r5 : Int) (r6 : Int) (r7 : Int) (r8 : Int) (r9 : Int) (r10 : Int) w2 =>
nwb w2 [.int .i64 0, .int .i64 0, .int .i64 0, .int .i64 r, .int .i64 r1, .int .i64 r2, .int .i64 r3, .int .i64 r4, .int .i64 r5, .int .i64 r6, .int .i64 r7, .int .i64 r8, .int .i64 r9, .int .i64 r10] T.table_Tune fun b w3 =>
R (.pointer (some ⟨b, 0, none⟩)) w3
def Dc.table_New : Dc := { N := 7, va := [(1, 7)], vb := [(7, 11)], ann := [], ext := Xt }
theorem Eq.table_New (t : HL [.int .i64, .int .i64, .int .i64, .int .i64, .int .i64, .int .i64, .int .i64, .int .i64, .int .i64, .int .i64, .int .i64]) (R : Value → TW → Prop) (w : TW) : denF Pg Dc.table_New Go.Proofs.Try.f101 (Go.Proofs.Try.f101.body.getD .skip) [.agg (encs [.int .i64, .int .i64, .int .i64, .int .i64, .int .i64, .int .i64, .int .i64, .int .i64, .int .i64, .int .i64, .int .i64] t).toArray] w R = Sh.table_New t R w := by kernel_rfl
theorem Ct.table_New {t : HL [.int .i64, .int .i64, .int .i64, .int .i64, .int .i64, .int .i64, .int .i64, .int .i64, .int .i64, .int .i64, .int .i64]} {w : TW} {X : Nat → Prop} {K : Tel (fl [.one .ptr]) (TW → Prop)} (h : Sh.table_New t (Rt X [.one .ptr] K w) w.here) : Ct Pg F.table_New [.agg (encs [.int .i64, .int .i64, .int .i64, .int .i64, .int .i64, .int .i64, .int .i64, .int .i64, .int .i64, .int .i64, .int .i64] t).toArray] w X [.one .ptr] K :=
  ct_of_den (D := Dc.table_New) (fn := Go.Proofs.Try.f101) Xt_ok follows_ok (by kernel_rfl) (by kernel_rfl) (by kernel_rfl) (Eq.mpr (Eq.table_New t _ _) h)

def Sh.table_Clamp (t : HL [.int .i64, .int .i64, .int .i64, .int .i64, .int .i64, .int .i64, .int .i64, .int .i64, .int .i64, .int .i64, .int .i64]) (R : Value → TW → Prop) (w : TW) : Prop :=
nwv w fun w1 =>
nwv w1 fun w2 =>
cl Pg F.table_within [.int .i64 t.1, .int .i64 4, .int .i64 64] w2.drew [.one (.int .i64)] fun (r : Int) w3 =>
cl Pg F.table_within [.int .i64 t.2.1, .int .i64 12, .int .i64 8192] w3 [.one (.int .i64)] fun (r1 : Int) w4 =>
cl Pg F.table_within [.int .i64 t.2.2.1, .int .i64 64, .int .i64 16384] w4 [.one (.int .i64)] fun (r2 : Int) w5 =>
cl Pg F.table_within [.int .i64 t.2.2.2.1, .int .i64 4, .int .i64 1024] w5 [.one (.int .i64)] fun (r3 : Int) w6 =>
cl Pg F.table_within [.int .i64 t.2.2.2.2.1, .int .i64 4, .int .i64 4096] w6 [.one (.int .i64)] fun (r4 : Int) w7 =>
cl Pg F.table_within [.int .i64 t.2.2.2.2.2.1, .int .i64 2, .int .i64 1024] w7 [.one (.int .i64)] fun (r5 : Int) w8 =>
cl Pg F.table_within [.int .i64 t.2.2.2.2.2.2.1, .int .i64 2, .int .i64 1024] w8 [.one (.int .i64)] fun (r6 : Int) w9 =>
cl Pg F.table_within [.int .i64 t.2.2.2.2.2.2.2.1, .int .i64 4, .int .i64 256] w9 [.one (.int .i64)] fun (r7 : Int) w10 =>
cl Pg F.table_within [.int .i64 t.2.2.2.2.2.2.2.2.1, .int .i64 4, .int .i64 1024] w10 [.one (.int .i64)] fun (r8 : Int) w11 =>
cl Pg F.table_within [.int .i64 t.2.2.2.2.2.2.2.2.2.1, .int .i64 2, .int .i64 1024] w11 [.one (.int .i64)] fun (r9 : Int) w12 =>
cl Pg F.table_within [.int .i64 t.2.2.2.2.2.2.2.2.2.2.1, .int .i64 2, .int .i64 256] w12 [.one (.int .i64)] fun (r10 : Int) w13 =>
nwv w13 fun w14 =>
R (.agg #[.int .i64 r, .int .i64 r1, .int .i64 r2, .int .i64 r3, .int .i64 r4, .int .i64 r5, .int .i64 r6, .int .i64 r7, .int .i64 r8, .int .i64 r9, .int .i64 r10]) w14
def Dc.table_Clamp : Dc := { N := 37, va := [(1, 37), (2, 48)], vb := [(37, 11), (48, 11)], ann := [], ext := Xt }
theorem Eq.table_Clamp (t : HL [.int .i64, .int .i64, .int .i64, .int .i64, .int .i64, .int .i64, .int .i64, .int .i64, .int .i64, .int .i64, .int .i64]) (R : Value → TW → Prop) (w : TW) : denF Pg Dc.table_Clamp Go.Proofs.Try.f102 (Go.Proofs.Try.f102.body.getD .skip) [.agg (encs [.int .i64, .int .i64, .int .i64, .int .i64, .int .i64, .int .i64, .int .i64, .int .i64, .int .i64, .int .i64, .int .i64] t).toArray] w R = Sh.table_Clamp t R w := by kernel_rfl
theorem Ct.table_Clamp {t : HL [.int .i64, .int .i64, .int .i64, .int .i64, .int .i64, .int .i64, .int .i64, .int .i64, .int .i64, .int .i64, .int .i64]} {w : TW} {X : Nat → Prop} {K : Tel (fl [.agg [.int .i64, .int .i64, .int .i64, .int .i64, .int .i64, .int .i64, .int .i64, .int .i64, .int .i64, .int .i64, .int .i64]]) (TW → Prop)} (h : Sh.table_Clamp t (Rt X [.agg [.int .i64, .int .i64, .int .i64, .int .i64, .int .i64, .int .i64, .int .i64, .int .i64, .int .i64, .int .i64, .int .i64]] K w) w.here) : Ct Pg F.table_Clamp [.agg (encs [.int .i64, .int .i64, .int .i64, .int .i64, .int .i64, .int .i64, .int .i64, .int .i64, .int .i64, .int .i64, .int .i64] t).toArray] w X [.agg [.int .i64, .int .i64, .int .i64, .int .i64, .int .i64, .int .i64, .int .i64, .int .i64, .int .i64, .int .i64, .int .i64]] K :=
  ct_of_den (D := Dc.table_Clamp) (fn := Go.Proofs.Try.f102) Xt_ok follows_ok (by kernel_rfl) (by kernel_rfl) (by kernel_rfl) (Eq.mpr (Eq.table_Clamp t _ _) h)

def Sh.table_within (n : Int) (least : Int) (most : Int) (R : Value → TW → Prop) (w : TW) : Prop :=
bnd (if (most : Int) < n then most else n) fun n1 =>
bnd (if (n1 : Int) > least then n1 else least) fun n2 =>
R (.int .i64 n2) w
def Dc.table_within : Dc := { N := 12, va := [], vb := [], ann := [], ext := Xt }
theorem Eq.table_within (n : Int) (least : Int) (most : Int) (R : Value → TW → Prop) (w : TW) : denF Pg Dc.table_within Go.Proofs.Try.f103 (Go.Proofs.Try.f103.body.getD .skip) [.int .i64 n, .int .i64 least, .int .i64 most] w R = Sh.table_within n least most R w := by kernel_rfl
theorem Ct.table_within {n : Int} {least : Int} {most : Int} {w : TW} {X : Nat → Prop} {K : Tel (fl [.one (.int .i64)]) (TW → Prop)} (h : Sh.table_within n least most (Rt X [.one (.int .i64)] K w) w.here) : Ct Pg F.table_within [.int .i64 n, .int .i64 least, .int .i64 most] w X [.one (.int .i64)] K :=
  ct_of_den (D := Dc.table_within) (fn := Go.Proofs.Try.f103) Xt_ok follows_ok (by kernel_rfl) (by kernel_rfl) (by kernel_rfl) (Eq.mpr (Eq.table_within n least most _ _) h)
end Go.Proofs.Ytgcnflfempaliaa.Zg
end

section
set_option maxRecDepth 100000
namespace Go.Proofs.Ytgcnflfempaliaa.Zg
def Sh.toom_New (t : HL [.int .i64, .int .i64, .int .i64, .int .i64, .int .i64, .int .i64, .int .i64, .int .i64, .int .i64, .int .i64, .int .i64]) (R : Value → TW → Prop) (w : TW) : Prop :=
nwv w fun w1 =>
cl Pg F.kara_New [.agg #[.int .i64 t.1, .int .i64 t.2.1, .int .i64 t.2.2.1, .int .i64 t.2.2.2.1, .int .i64 t.2.2.2.2.1, .int .i64 t.2.2.2.2.2.1, .int .i64 t.2.2.2.2.2.2.1, .int .i64 t.2.2.2.2.2.2.2.1, .int .i64 t.2.2.2.2.2.2.2.2.1, .int .i64 t.2.2.2.2.2.2.2.2.2.1, .int .i64 t.2.2.2.2.2.2.2.2.2.2.1]] w1 [.one .ptr] fun (p : Option Addr) w2 =>
nwb w2 [.pointer p] T.toom_Engine fun b w3 =>
R (.pointer (some ⟨b, 0, none⟩)) w3
def Dc.toom_New : Dc := { N := 7, va := [(1, 7)], vb := [(7, 11)], ann := [], ext := Xt }
theorem Eq.toom_New (t : HL [.int .i64, .int .i64, .int .i64, .int .i64, .int .i64, .int .i64, .int .i64, .int .i64, .int .i64, .int .i64, .int .i64]) (R : Value → TW → Prop) (w : TW) : denF Pg Dc.toom_New Go.Proofs.Try.f98 (Go.Proofs.Try.f98.body.getD .skip) [.agg (encs [.int .i64, .int .i64, .int .i64, .int .i64, .int .i64, .int .i64, .int .i64, .int .i64, .int .i64, .int .i64, .int .i64] t).toArray] w R = Sh.toom_New t R w := by kernel_rfl
theorem Ct.toom_New {t : HL [.int .i64, .int .i64, .int .i64, .int .i64, .int .i64, .int .i64, .int .i64, .int .i64, .int .i64, .int .i64, .int .i64]} {w : TW} {X : Nat → Prop} {K : Tel (fl [.one .ptr]) (TW → Prop)} (h : Sh.toom_New t (Rt X [.one .ptr] K w) w.here) : Ct Pg F.toom_New [.agg (encs [.int .i64, .int .i64, .int .i64, .int .i64, .int .i64, .int .i64, .int .i64, .int .i64, .int .i64, .int .i64, .int .i64] t).toArray] w X [.one .ptr] K :=
  ct_of_den (D := Dc.toom_New) (fn := Go.Proofs.Try.f98) Xt_ok follows_ok (by kernel_rfl) (by kernel_rfl) (by kernel_rfl) (Eq.mpr (Eq.toom_New t _ _) h)
end Go.Proofs.Ytgcnflfempaliaa.Zg
end

section
set_option maxRecDepth 100000
namespace Go.Proofs.Ytgcnflfempaliaa.Zg
def Sh.zigguratkeep_CutInt (a0 : Sl) (a1 : Bool) (n : Int) (R : Value → TW → Prop) (w : TW) : Prop :=
nwv w fun w1 =>
nwv w1 fun w2 =>
cl Pg F.zigguratkeep_Cut [a0.v, .int .i64 n] w2.drew [.one .slice] fun (s : Sl) w3 =>
nwv w3 fun w4 =>
R (.agg #[s.v, .bool a1]) w4
def Dc.zigguratkeep_CutInt : Dc := { N := 12, va := [(2, 12), (4, 14)], vb := [(12, 2), (14, 2)], ann := [], ext := Xt }
theorem Eq.zigguratkeep_CutInt (a0 : Sl) (a1 : Bool) (n : Int) (R : Value → TW → Prop) (w : TW) : denF Pg Dc.zigguratkeep_CutInt Go.Proofs.Try.f6 (Go.Proofs.Try.f6.body.getD .skip) [.agg #[a0.v, .bool a1], .int .i64 n] w R = Sh.zigguratkeep_CutInt a0 a1 n R w := by kernel_rfl
theorem Ct.zigguratkeep_CutInt {a0 : Sl} {a1 : Bool} {n : Int} {w : TW} {X : Nat → Prop} {K : Tel (fl [.agg [.slice, .bool]]) (TW → Prop)} (h : Sh.zigguratkeep_CutInt a0 a1 n (Rt X [.agg [.slice, .bool]] K w) w.here) : Ct Pg F.zigguratkeep_CutInt [.agg #[a0.v, .bool a1], .int .i64 n] w X [.agg [.slice, .bool]] K :=
  ct_of_den (D := Dc.zigguratkeep_CutInt) (fn := Go.Proofs.Try.f6) Xt_ok follows_ok (by kernel_rfl) (by kernel_rfl) (by kernel_rfl) (Eq.mpr (Eq.zigguratkeep_CutInt a0 a1 n _ _) h)

def Sh.zigguratkeep_Within (v : Int) (n : Int) (R : Value → TW → Prop) (w : TW) : Prop :=
cond (decide ((n : Int) < 1)) (
R (.int .i64 0) w) (
remK v n fun n1 =>
Jn [.int .i64] (fun J0 =>
cond (decide ((n1 : Int) < 0)) (
bnd (wi (n1 + n)) fun n2 =>
J0 n2 w) (
J0 n1 w)) fun (k : Int) w1 =>
R (.int .i64 k) w1)
def Dc.zigguratkeep_Within : Dc := { N := 17, va := [], vb := [], ann := [(1, 5, [(5, .one (.int .i64))])], ext := Xt }
theorem Eq.zigguratkeep_Within (v : Int) (n : Int) (R : Value → TW → Prop) (w : TW) : denF Pg Dc.zigguratkeep_Within Go.Proofs.Try.f8 (Go.Proofs.Try.f8.body.getD .skip) [.int .i64 v, .int .i64 n] w R = Sh.zigguratkeep_Within v n R w := by kernel_rfl
theorem Ct.zigguratkeep_Within {v : Int} {n : Int} {w : TW} {X : Nat → Prop} {K : Tel (fl [.one (.int .i64)]) (TW → Prop)} (h : Sh.zigguratkeep_Within v n (Rt X [.one (.int .i64)] K w) w.here) : Ct Pg F.zigguratkeep_Within [.int .i64 v, .int .i64 n] w X [.one (.int .i64)] K :=
  ct_of_den (D := Dc.zigguratkeep_Within) (fn := Go.Proofs.Try.f8) Xt_ok follows_ok (by kernel_rfl) (by kernel_rfl) (by kernel_rfl) (Eq.mpr (Eq.zigguratkeep_Within v n _ _) h)

def Sh.zigguratkeep_Int (a0 : Sl) (a1 : Bool) (b0 : Sl) (b1 : Bool) (R : Value → TW → Prop) (w : TW) : Prop :=
nwv w fun w1 =>
nwv w1 fun w2 =>
Jn [.bool] (fun J0 =>
cond (a1 == b1) (
cl Pg F.zigguratkeep_Same [a0.v, b0.v] w2 [.one .bool] fun (ok : Bool) w3 =>
J0 ok w3) (
J0 false w2)) fun (x : Bool) w4 =>
R (.bool x) w4
def Dc.zigguratkeep_Int : Dc := { N := 17, va := [(2, 17), (3, 19)], vb := [(17, 2), (19, 2)], ann := [(0, 1, [(4, .one .bool)])], ext := Xt }
theorem Eq.zigguratkeep_Int (a0 : Sl) (a1 : Bool) (b0 : Sl) (b1 : Bool) (R : Value → TW → Prop) (w : TW) : denF Pg Dc.zigguratkeep_Int Go.Proofs.Try.f17 (Go.Proofs.Try.f17.body.getD .skip) [.agg #[a0.v, .bool a1], .agg #[b0.v, .bool b1]] w R = Sh.zigguratkeep_Int a0 a1 b0 b1 R w := by kernel_rfl
theorem Ct.zigguratkeep_Int {a0 : Sl} {a1 : Bool} {b0 : Sl} {b1 : Bool} {w : TW} {X : Nat → Prop} {K : Tel (fl [.one .bool]) (TW → Prop)} (h : Sh.zigguratkeep_Int a0 a1 b0 b1 (Rt X [.one .bool] K w) w.here) : Ct Pg F.zigguratkeep_Int [.agg #[a0.v, .bool a1], .agg #[b0.v, .bool b1]] w X [.one .bool] K :=
  ct_of_den (D := Dc.zigguratkeep_Int) (fn := Go.Proofs.Try.f17) Xt_ok follows_ok (by kernel_rfl) (by kernel_rfl) (by kernel_rfl) (Eq.mpr (Eq.zigguratkeep_Int a0 a1 b0 b1 _ _) h)

def Sh.zigguratkeep_Cut (a : Sl) (n : Int) (R : Value → TW → Prop) (w : TW) : Prop :=
bnd (if (n : Int) < (a.n : Int) then n else (a.n : Int)) fun n1 =>
slc a 0 n1 1 fun s =>
R (s.v) w
def Dc.zigguratkeep_Cut : Dc := { N := 11, va := [], vb := [], ann := [], ext := Xt }
theorem Eq.zigguratkeep_Cut (a : Sl) (n : Int) (R : Value → TW → Prop) (w : TW) : denF Pg Dc.zigguratkeep_Cut Go.Proofs.Try.f21 (Go.Proofs.Try.f21.body.getD .skip) [a.v, .int .i64 n] w R = Sh.zigguratkeep_Cut a n R w := by kernel_rfl
theorem Ct.zigguratkeep_Cut {a : Sl} {n : Int} {w : TW} {X : Nat → Prop} {K : Tel (fl [.one .slice]) (TW → Prop)} (h : Sh.zigguratkeep_Cut a n (Rt X [.one .slice] K w) w.here) : Ct Pg F.zigguratkeep_Cut [a.v, .int .i64 n] w X [.one .slice] K :=
  ct_of_den (D := Dc.zigguratkeep_Cut) (fn := Go.Proofs.Try.f21) Xt_ok follows_ok (by kernel_rfl) (by kernel_rfl) (by kernel_rfl) (Eq.mpr (Eq.zigguratkeep_Cut a n _ _) h)

def Sh.zigguratkeep_CutInts (a : Sl) (k : Int) (n : Int) (R : Value → TW → Prop) (w : TW) : Prop :=
Jn [.slice] (fun J0 =>
Lp [.slice, .int .i64] (fun (out : Sl) (i : Int) w1 C0 =>
Jn [.bool] (fun J1 =>
cond (decide ((i : Int) < (a.n : Int))) (
J1 (decide ((i : Int) < k)) w1) (
J1 false w1)) fun (x : Bool) w2 =>
cond x (
ixa a i 2 fun a1 =>
ldc (.slice) w2 (a1.add 0) fun (v : Sl) =>
ldc (.bool) w2 (a1.add 1) fun (v1 : Bool) =>
cl Pg F.zigguratkeep_CutInt [.agg #[v.v, .bool v1], .int .i64 n] w2 [.agg [.slice, .bool]] fun (r : Sl) (r1 : Bool) w3 =>
nwb w3 [r.v, .bool r1] T.api_Int fun b w4 =>
apd w4 T.api_Int 2 32 out ⟨(some ⟨b, 0, none⟩), 1, 1⟩ fun s w5 =>
bnd (wi (i + 1)) fun n1 =>
C0 s n1 w5) (
J0 out w2)) Sl.nil 0 w) fun (out1 : Sl) w6 =>
R (out1.v) w6
def Dc.zigguratkeep_CutInts : Dc := { N := 30, va := [], vb := [], ann := [(2, 0, [(7, .one .slice)]), (3, 3, [(7, .one .slice), (8, .one (.int .i64))]), (0, 3, [(17, .one .bool)])], ext := Xt }
theorem Eq.zigguratkeep_CutInts (a : Sl) (k : Int) (n : Int) (R : Value → TW → Prop) (w : TW) : denF Pg Dc.zigguratkeep_CutInts Go.Proofs.Try.f40 (Go.Proofs.Try.f40.body.getD .skip) [a.v, .int .i64 k, .int .i64 n] w R = Sh.zigguratkeep_CutInts a k n R w := by kernel_rfl
theorem Ct.zigguratkeep_CutInts {a : Sl} {k : Int} {n : Int} {w : TW} {X : Nat → Prop} {K : Tel (fl [.one .slice]) (TW → Prop)} (h : Sh.zigguratkeep_CutInts a k n (Rt X [.one .slice] K w) w.here) : Ct Pg F.zigguratkeep_CutInts [a.v, .int .i64 k, .int .i64 n] w X [.one .slice] K :=
  ct_of_den (D := Dc.zigguratkeep_CutInts) (fn := Go.Proofs.Try.f40) Xt_ok follows_ok (by kernel_rfl) (by kernel_rfl) (by kernel_rfl) (Eq.mpr (Eq.zigguratkeep_CutInts a k n _ _) h)

def Sh.zigguratkeep_Same (a : Sl) (b : Sl) (R : Value → TW → Prop) (w : TW) : Prop :=
cond (((a.n : Int) : Int) != (b.n : Int)) (
R (.bool false) w) (
Jn [] (fun J0 =>
Lp [.int .i64] (fun (i : Int) w1 C0 =>
cond (decide ((i : Int) < (a.n : Int))) (
ixa a i 1 fun a1 =>
ldc (.int .u64) w1.drew a1 fun (v : Int) =>
ixa b i 1 fun a2 =>
ldc (.int .u64) w1.drew a2 fun (v1 : Int) =>
cond ((v : Int) != v1) (
R (.bool false) w1.drew) (
bnd (wi (i + 1)) fun n =>
C0 n w1.drew)) (
J0 w1)) 0 w) fun  w2 =>
R (.bool true) w2)
def Dc.zigguratkeep_Same : Dc := { N := 26, va := [], vb := [], ann := [(2, 0, []), (3, 4, [(5, .one (.int .i64))])], ext := Xt }
theorem Eq.zigguratkeep_Same (a : Sl) (b : Sl) (R : Value → TW → Prop) (w : TW) : denF Pg Dc.zigguratkeep_Same Go.Proofs.Try.f46 (Go.Proofs.Try.f46.body.getD .skip) [a.v, b.v] w R = Sh.zigguratkeep_Same a b R w := by kernel_rfl
theorem Ct.zigguratkeep_Same {a : Sl} {b : Sl} {w : TW} {X : Nat → Prop} {K : Tel (fl [.one .bool]) (TW → Prop)} (h : Sh.zigguratkeep_Same a b (Rt X [.one .bool] K w) w.here) : Ct Pg F.zigguratkeep_Same [a.v, b.v] w X [.one .bool] K :=
  ct_of_den (D := Dc.zigguratkeep_Same) (fn := Go.Proofs.Try.f46) Xt_ok follows_ok (by kernel_rfl) (by kernel_rfl) (by kernel_rfl) (Eq.mpr (Eq.zigguratkeep_Same a b _ _) h)
end Go.Proofs.Ytgcnflfempaliaa.Zg
end

section
set_option maxRecDepth 100000
namespace Go.Proofs.Ytgcnflfempaliaa.Zg
def Sh.zigguratlaw29_ZmulUnpacks (t : HL [.int .i64, .int .i64, .int .i64, .int .i64, .int .i64, .int .i64, .int .i64, .int .i64, .int .i64, .int .i64, .int .i64]) (a0 : Sl) (a1 : Bool) (k : Int) (R : Value → TW → Prop) (w : TW) : Prop :=
nwv w fun w1 =>
nwv w1 fun w2 =>
cl Pg F.zigguratkeep_CutInt [.agg #[a0.v, .bool a1], .int .i64 8] w2 [.agg [.slice, .bool]] fun (r : Sl) (r1 : Bool) w3 =>
nwv w3 fun w4 =>
cl Pg F.zmul_New [.agg #[.int .i64 t.1, .int .i64 t.2.1, .int .i64 t.2.2.1, .int .i64 t.2.2.2.1, .int .i64 t.2.2.2.2.1, .int .i64 t.2.2.2.2.2.1, .int .i64 t.2.2.2.2.2.2.1, .int .i64 t.2.2.2.2.2.2.2.1, .int .i64 t.2.2.2.2.2.2.2.2.1, .int .i64 t.2.2.2.2.2.2.2.2.2.1, .int .i64 t.2.2.2.2.2.2.2.2.2.2.1]] w4 [.one .ptr] fun (p : Option Addr) w5 =>
cond (Option.isNone p) (
R (.bool false) w5) (
Jn [.bool, .slice, .bool] (fun J0 =>
cond (decide ((k : Int) > 600)) (
J0 (decide ((k : Int) ≤ 1048576)) r r1 w5) (
J0 false r r1 w5)) fun (x : Bool) (a2 : Sl) (a3 : Bool) w6 =>
Jn [.int .i64, .slice, .bool] (fun J1 =>
cond x (
cl Pg F.zigguratkeep_Within [.int .i64 k, .int .i64 600] w6 [.one (.int .i64)] fun (r2 : Int) w7 =>
J1 r2 a2 a3 w7) (
J1 k a2 a3 w6)) fun (k1 : Int) (a4 : Sl) (a5 : Bool) w8 =>
cl Pg F.zmul_Engine_Unpack [.pointer p, .agg #[a4.v, .bool a5], .int .i64 k1] w8 [.one .slice, .one (.int .i64)] fun (s : Sl) (r3 : Int) w9 =>
Jn [.bool, .slice, .bool] (fun J2 =>
cond (decide ((k1 : Int) < 2)) (
J2 true a4 a5 w9) (
J2 (decide ((k1 : Int) > 1048576)) a4 a5 w9)) fun (x1 : Bool) (a6 : Sl) (a7 : Bool) w10 =>
cond x1 (
Jn [.bool] (fun J3 =>
cond ((r3 : Int) == 1) (
cond (((s.n : Int) : Int) == 0) (
cl Pg F.zigguratlaw29_wakes [] w10 [.one .bool] fun (ok : Bool) w11 =>
J3 ok w11) (
J3 false w10)) (
J3 false w10)) fun (x2 : Bool) w12 =>
R (.bool x2) w12) (
Jn [.bool] (fun J4 =>
cond ((r3 : Int) == 0) (
cl Pg F.zigguratref17_From [.agg #[a6.v, .bool a7]] w10 [.agg [.slice, .bool]] fun (r4 : Sl) (r5 : Bool) w13 =>
cl Pg F.zigguratref28_Unpack [.agg #[r4.v, .bool r5], .int .i64 k1] w13 [.one .slice] fun (s1 : Sl) w14 =>
cl Pg F.zigguratref28_Same [s1.v, s.v] w14 [.one .bool] fun (ok1 : Bool) w15 =>
cond ok1 (
cl Pg F.zigguratlaw29_wakes [] w15 [.one .bool] fun (ok2 : Bool) w16 =>
J4 ok2 w16) (
J4 false w15)) (
J4 false w10)) fun (x3 : Bool) w17 =>
R (.bool x3) w17))
def Dc.zigguratlaw29_ZmulUnpacks : Dc := { N := 60, va := [(3, 60), (4, 71)], vb := [(60, 11), (71, 2)], ann := [(0, 5, [(21, .one .bool), (71, .one .slice), (72, .one .bool)]), (1, 6, [(2, .one (.int .i64)), (71, .one .slice), (72, .one .bool)]), (0, 8, [(36, .one .bool), (71, .one .slice), (72, .one .bool)]), (0, 9, [(6, .one .bool)]), (0, 10, [(6, .one .bool)])], ext := Xt }
theorem Eq.zigguratlaw29_ZmulUnpacks (t : HL [.int .i64, .int .i64, .int .i64, .int .i64, .int .i64, .int .i64, .int .i64, .int .i64, .int .i64, .int .i64, .int .i64]) (a0 : Sl) (a1 : Bool) (k : Int) (R : Value → TW → Prop) (w : TW) : denF Pg Dc.zigguratlaw29_ZmulUnpacks Go.Proofs.Try.f3 (Go.Proofs.Try.f3.body.getD .skip) [.agg (encs [.int .i64, .int .i64, .int .i64, .int .i64, .int .i64, .int .i64, .int .i64, .int .i64, .int .i64, .int .i64, .int .i64] t).toArray, .agg #[a0.v, .bool a1], .int .i64 k] w R = Sh.zigguratlaw29_ZmulUnpacks t a0 a1 k R w := by kernel_rfl
theorem Ct.zigguratlaw29_ZmulUnpacks {t : HL [.int .i64, .int .i64, .int .i64, .int .i64, .int .i64, .int .i64, .int .i64, .int .i64, .int .i64, .int .i64, .int .i64]} {a0 : Sl} {a1 : Bool} {k : Int} {w : TW} {X : Nat → Prop} {K : Tel (fl [.one .bool]) (TW → Prop)} (h : Sh.zigguratlaw29_ZmulUnpacks t a0 a1 k (Rt X [.one .bool] K w) w.here) : Ct Pg F.zigguratlaw29_ZmulUnpacks [.agg (encs [.int .i64, .int .i64, .int .i64, .int .i64, .int .i64, .int .i64, .int .i64, .int .i64, .int .i64, .int .i64, .int .i64] t).toArray, .agg #[a0.v, .bool a1], .int .i64 k] w X [.one .bool] K :=
  ct_of_den (D := Dc.zigguratlaw29_ZmulUnpacks) (fn := Go.Proofs.Try.f3) Xt_ok follows_ok (by kernel_rfl) (by kernel_rfl) (by kernel_rfl) (Eq.mpr (Eq.zigguratlaw29_ZmulUnpacks t a0 a1 k _ _) h)

def Sh.zigguratlaw29_ZmulPacks (t : HL [.int .i64, .int .i64, .int .i64, .int .i64, .int .i64, .int .i64, .int .i64, .int .i64, .int .i64, .int .i64, .int .i64]) (a : Sl) (k : Int) (R : Value → TW → Prop) (w : TW) : Prop :=
nwv w fun w1 =>
cl Pg F.zigguratlaw29_cut [a.v, .int .i64 10, .int .i64 2] w1 [.one .slice, .one .slice] fun (s : Sl) (s1 : Sl) w2 =>
cl Pg F.zmul_New [.agg #[.int .i64 t.1, .int .i64 t.2.1, .int .i64 t.2.2.1, .int .i64 t.2.2.2.1, .int .i64 t.2.2.2.2.1, .int .i64 t.2.2.2.2.2.1, .int .i64 t.2.2.2.2.2.2.1, .int .i64 t.2.2.2.2.2.2.2.1, .int .i64 t.2.2.2.2.2.2.2.2.1, .int .i64 t.2.2.2.2.2.2.2.2.2.1, .int .i64 t.2.2.2.2.2.2.2.2.2.2.1]] w2 [.one .ptr] fun (p : Option Addr) w3 =>
cond (Option.isNone p) (
R (.bool false) w3) (
Jn [.bool] (fun J0 =>
cond (decide ((k : Int) > 300)) (
J0 (decide ((k : Int) ≤ 1048576)) w3) (
J0 false w3)) fun (x : Bool) w4 =>
Jn [.int .i64] (fun J1 =>
cond x (
cl Pg F.zigguratkeep_Within [.int .i64 k, .int .i64 300] w4 [.one (.int .i64)] fun (r : Int) w5 =>
J1 r w5) (
J1 k w4)) fun (k1 : Int) w6 =>
cl Pg F.zmul_Engine_Pack [.pointer p, s.v, .int .i64 k1] w6 [.agg [.slice, .bool], .one (.int .i64)] fun (r1 : Sl) (r2 : Bool) (r3 : Int) w7 =>
nwv w7 fun w8 =>
nwv w8 fun w9 =>
Jn [.bool, .slice, .bool] (fun J2 =>
cond (decide ((k1 : Int) < 1)) (
J2 true r1 r2 w9) (
cond (decide ((k1 : Int) > 1048576)) (
J2 true r1 r2 w9) (
cl Pg F.zigguratref28_Height [s1.v] w9 [.one (.int .i64)] fun (r4 : Int) w10 =>
J2 (decide ((r4 : Int) ≥ k1)) r1 r2 w10))) fun (x1 : Bool) (n : Sl) (n1 : Bool) w11 =>
cond x1 (
Jn [.bool] (fun J3 =>
cond ((r3 : Int) == 1) (
cond (((n.n : Int) : Int) == 0) (
cond (!n1) (
cl Pg F.zigguratlaw29_wakes [] w11 [.one .bool] fun (ok : Bool) w12 =>
J3 ok w12) (
J3 false w11)) (
J3 false w11)) (
J3 false w11)) fun (x2 : Bool) w13 =>
R (.bool x2) w13) (
Jn [.bool] (fun J4 =>
cond ((r3 : Int) == 0) (
cl Pg F.zigguratref28_Pack [s1.v, .int .i64 k1] w11.drew [.agg [.slice, .bool]] fun (r5 : Sl) (r6 : Bool) w14 =>
cl Pg F.zigguratref17_To [.agg #[r5.v, .bool r6]] w14 [.agg [.slice, .bool]] fun (r7 : Sl) (r8 : Bool) w15 =>
cl Pg F.zigguratkeep_Int [.agg #[n.v, .bool n1], .agg #[r7.v, .bool r8]] w15 [.one .bool] fun (ok1 : Bool) w16 =>
cond ok1 (
cl Pg F.zigguratlaw29_wakes [] w16 [.one .bool] fun (ok2 : Bool) w17 =>
J4 ok2 w17) (
J4 false w16)) (
J4 false w11.drew)) fun (x3 : Bool) w18 =>
R (.bool x3) w18))
def Dc.zigguratlaw29_ZmulPacks : Dc := { N := 76, va := [(3, 76), (9, 87)], vb := [(76, 11), (87, 2)], ann := [(0, 5, [(25, .one .bool)]), (1, 6, [(2, .one (.int .i64))]), (0, 8, [(46, .one .bool), (87, .one .slice), (88, .one .bool)]), (0, 9, [(6, .one .bool)]), (0, 10, [(6, .one .bool)])], ext := Xt }
theorem Eq.zigguratlaw29_ZmulPacks (t : HL [.int .i64, .int .i64, .int .i64, .int .i64, .int .i64, .int .i64, .int .i64, .int .i64, .int .i64, .int .i64, .int .i64]) (a : Sl) (k : Int) (R : Value → TW → Prop) (w : TW) : denF Pg Dc.zigguratlaw29_ZmulPacks Go.Proofs.Try.f4 (Go.Proofs.Try.f4.body.getD .skip) [.agg (encs [.int .i64, .int .i64, .int .i64, .int .i64, .int .i64, .int .i64, .int .i64, .int .i64, .int .i64, .int .i64, .int .i64] t).toArray, a.v, .int .i64 k] w R = Sh.zigguratlaw29_ZmulPacks t a k R w := by kernel_rfl
theorem Ct.zigguratlaw29_ZmulPacks {t : HL [.int .i64, .int .i64, .int .i64, .int .i64, .int .i64, .int .i64, .int .i64, .int .i64, .int .i64, .int .i64, .int .i64]} {a : Sl} {k : Int} {w : TW} {X : Nat → Prop} {K : Tel (fl [.one .bool]) (TW → Prop)} (h : Sh.zigguratlaw29_ZmulPacks t a k (Rt X [.one .bool] K w) w.here) : Ct Pg F.zigguratlaw29_ZmulPacks [.agg (encs [.int .i64, .int .i64, .int .i64, .int .i64, .int .i64, .int .i64, .int .i64, .int .i64, .int .i64, .int .i64, .int .i64] t).toArray, a.v, .int .i64 k] w X [.one .bool] K :=
  ct_of_den (D := Dc.zigguratlaw29_ZmulPacks) (fn := Go.Proofs.Try.f4) Xt_ok follows_ok (by kernel_rfl) (by kernel_rfl) (by kernel_rfl) (Eq.mpr (Eq.zigguratlaw29_ZmulPacks t a k _ _) h)

def Sh.zigguratlaw29_ZmulRound (t : HL [.int .i64, .int .i64, .int .i64, .int .i64, .int .i64, .int .i64, .int .i64, .int .i64, .int .i64, .int .i64, .int .i64]) (a : Sl) (more : Int) (R : Value → TW → Prop) (w : TW) : Prop :=
nwv w fun w1 =>
cl Pg F.zigguratlaw29_cut [a.v, .int .i64 16, .int .i64 3] w1 [.one .slice, .one .slice] fun (s : Sl) (s1 : Sl) w2 =>
cl Pg F.zmul_New [.agg #[.int .i64 t.1, .int .i64 t.2.1, .int .i64 t.2.2.1, .int .i64 t.2.2.2.1, .int .i64 t.2.2.2.2.1, .int .i64 t.2.2.2.2.2.1, .int .i64 t.2.2.2.2.2.2.1, .int .i64 t.2.2.2.2.2.2.2.1, .int .i64 t.2.2.2.2.2.2.2.2.1, .int .i64 t.2.2.2.2.2.2.2.2.2.1, .int .i64 t.2.2.2.2.2.2.2.2.2.2.1]] w2 [.one .ptr] fun (p : Option Addr) w3 =>
cond (Option.isNone p) (
R (.bool false) w3) (
cl Pg F.zigguratref28_Height [s1.v] w3 [.one (.int .i64)] fun (r : Int) w4 =>
bnd (wi (r + 2)) fun n =>
cl Pg F.zigguratkeep_Within [.int .i64 more, .int .i64 70] w4 [.one (.int .i64)] fun (r1 : Int) w5 =>
bnd (wi (n + r1)) fun n1 =>
cl Pg F.zmul_Engine_Pack [.pointer p, s.v, .int .i64 n1] w5 [.agg [.slice, .bool], .one (.int .i64)] fun (r2 : Sl) (r3 : Bool) (r4 : Int) w6 =>
nwv w6 fun w7 =>
nwv w7 fun w8 =>
cl Pg F.zmul_Engine_Unpack [.pointer p, .agg #[r2.v, .bool r3], .int .i64 n1] w8 [.one .slice, .one (.int .i64)] fun (s2 : Sl) (r5 : Int) w9 =>
Jn [.bool] (fun J0 =>
cond ((r4 : Int) == 0) (
cond ((r5 : Int) == 0) (
cl Pg F.zigguratref28_Same [s1.v, s2.v] w9 [.one .bool] fun (ok : Bool) w10 =>
cond ok (
cl Pg F.polyz_Same [s2.v, s.v] w10 [.one .bool] fun (ok1 : Bool) w11 =>
cond ok1 (
cl Pg F.zigguratlaw29_wakes [] w11 [.one .bool] fun (ok2 : Bool) w12 =>
J0 ok2 w12) (
J0 false w11)) (
J0 false w10)) (
J0 false w9)) (
J0 false w9)) fun (x : Bool) w13 =>
R (.bool x) w13)
def Dc.zigguratlaw29_ZmulRound : Dc := { N := 62, va := [(3, 62), (10, 73)], vb := [(62, 11), (73, 2)], ann := [(0, 8, [(6, .one .bool)])], ext := Xt }
theorem Eq.zigguratlaw29_ZmulRound (t : HL [.int .i64, .int .i64, .int .i64, .int .i64, .int .i64, .int .i64, .int .i64, .int .i64, .int .i64, .int .i64, .int .i64]) (a : Sl) (more : Int) (R : Value → TW → Prop) (w : TW) : denF Pg Dc.zigguratlaw29_ZmulRound Go.Proofs.Try.f5 (Go.Proofs.Try.f5.body.getD .skip) [.agg (encs [.int .i64, .int .i64, .int .i64, .int .i64, .int .i64, .int .i64, .int .i64, .int .i64, .int .i64, .int .i64, .int .i64] t).toArray, a.v, .int .i64 more] w R = Sh.zigguratlaw29_ZmulRound t a more R w := by kernel_rfl
theorem Ct.zigguratlaw29_ZmulRound {t : HL [.int .i64, .int .i64, .int .i64, .int .i64, .int .i64, .int .i64, .int .i64, .int .i64, .int .i64, .int .i64, .int .i64]} {a : Sl} {more : Int} {w : TW} {X : Nat → Prop} {K : Tel (fl [.one .bool]) (TW → Prop)} (h : Sh.zigguratlaw29_ZmulRound t a more (Rt X [.one .bool] K w) w.here) : Ct Pg F.zigguratlaw29_ZmulRound [.agg (encs [.int .i64, .int .i64, .int .i64, .int .i64, .int .i64, .int .i64, .int .i64, .int .i64, .int .i64, .int .i64, .int .i64] t).toArray, a.v, .int .i64 more] w X [.one .bool] K :=
  ct_of_den (D := Dc.zigguratlaw29_ZmulRound) (fn := Go.Proofs.Try.f5) Xt_ok follows_ok (by kernel_rfl) (by kernel_rfl) (by kernel_rfl) (Eq.mpr (Eq.zigguratlaw29_ZmulRound t a more _ _) h)

def Sh.zigguratlaw29_wakes (R : Value → TW → Prop) (w : TW) : Prop :=
cl Pg F.zmul_New [.agg #[.int .i64 0, .int .i64 0, .int .i64 0, .int .i64 0, .int .i64 0, .int .i64 0, .int .i64 0, .int .i64 0, .int .i64 0, .int .i64 0, .int .i64 0]] w [.one .ptr] fun (p : Option Addr) w1 =>
cond (Option.isNone p) (
R (.bool false) w1) (
cl Pg F.num_Of [.int .i64 15] w1 [.agg [.slice, .bool]] fun (r : Sl) (r1 : Bool) w2 =>
cl Pg F.zmul_Engine_Unpack [.pointer p, .agg #[r.v, .bool r1], .int .i64 4] w2 [.one .slice, .one (.int .i64)] fun (s : Sl) (r2 : Int) w3 =>
Jn [.bool] (fun J0 =>
cond ((r2 : Int) == 0) (
cl Pg F.zigguratref17_Small [.int .i64 (-1)] w3 [.agg [.slice, .bool]] fun (r3 : Sl) (r4 : Bool) w4 =>
cl Pg F.zigguratref17_Small [.int .i64 1] w4 [.agg [.slice, .bool]] fun (r5 : Sl) (r6 : Bool) w5 =>
nwb w5 [r3.v, .bool r4, r5.v, .bool r6] T.zigguratref17_I fun b w6 =>
cl Pg F.zigguratref28_Same [.slice (some ⟨b, 0, none⟩) 2 2, s.v] w6 [.one .bool] fun (ok : Bool) w7 =>
J0 ok w7) (
J0 false w3)) fun (x : Bool) w8 =>
R (.bool x) w8)
def Dc.zigguratlaw29_wakes : Dc := { N := 23, va := [], vb := [], ann := [(0, 5, [(0, .one .bool)])], ext := Xt }
theorem Eq.zigguratlaw29_wakes (R : Value → TW → Prop) (w : TW) : denF Pg Dc.zigguratlaw29_wakes Go.Proofs.Try.f10 (Go.Proofs.Try.f10.body.getD .skip) [] w R = Sh.zigguratlaw29_wakes R w := by kernel_rfl
theorem Ct.zigguratlaw29_wakes {w : TW} {X : Nat → Prop} {K : Tel (fl [.one .bool]) (TW → Prop)} (h : Sh.zigguratlaw29_wakes (Rt X [.one .bool] K w) w.here) : Ct Pg F.zigguratlaw29_wakes [] w X [.one .bool] K :=
  ct_of_den (D := Dc.zigguratlaw29_wakes) (fn := Go.Proofs.Try.f10) Xt_ok follows_ok (by kernel_rfl) (by kernel_rfl) (by kernel_rfl) (Eq.mpr (Eq.zigguratlaw29_wakes _ _) h)

def Sh.zigguratlaw29_cut (a : Sl) (n : Int) (k : Int) (R : Value → TW → Prop) (w : TW) : Prop :=
cl Pg F.zigguratkeep_CutInts [a.v, .int .i64 n, .int .i64 k] w [.one .slice] fun (s : Sl) w1 =>
cl Pg F.zigguratref28_From [s.v] w1 [.one .slice] fun (s1 : Sl) w2 =>
R (.tuple #[s.v, s1.v]) w2
def Dc.zigguratlaw29_cut : Dc := { N := 15, va := [], vb := [], ann := [], ext := Xt }
theorem Eq.zigguratlaw29_cut (a : Sl) (n : Int) (k : Int) (R : Value → TW → Prop) (w : TW) : denF Pg Dc.zigguratlaw29_cut Go.Proofs.Try.f14 (Go.Proofs.Try.f14.body.getD .skip) [a.v, .int .i64 n, .int .i64 k] w R = Sh.zigguratlaw29_cut a n k R w := by kernel_rfl
theorem Ct.zigguratlaw29_cut {a : Sl} {n : Int} {k : Int} {w : TW} {X : Nat → Prop} {K : Tel (fl [.one .slice, .one .slice]) (TW → Prop)} (h : Sh.zigguratlaw29_cut a n k (Rt X [.one .slice, .one .slice] K w) w.here) : Ct Pg F.zigguratlaw29_cut [a.v, .int .i64 n, .int .i64 k] w X [.one .slice, .one .slice] K :=
  ct_of_den (D := Dc.zigguratlaw29_cut) (fn := Go.Proofs.Try.f14) Xt_ok follows_ok (by kernel_rfl) (by kernel_rfl) (by kernel_rfl) (Eq.mpr (Eq.zigguratlaw29_cut a n k _ _) h)
end Go.Proofs.Ytgcnflfempaliaa.Zg
end

section
set_option maxRecDepth 100000
namespace Go.Proofs.Ytgcnflfempaliaa.Zg
def Sh.zigguratref02_Same (a : Sl) (b : Sl) (R : Value → TW → Prop) (w : TW) : Prop :=
cl Pg F.zigguratref02_To [a.v] w [.one .slice] fun (s : Sl) w1 =>
cond (((s.n : Int) : Int) != (b.n : Int)) (
R (.bool false) w1) (
Jn [] (fun J0 =>
Lp [.int .i64] (fun (i : Int) w2 C0 =>
cond (decide ((i : Int) < (s.n : Int))) (
ixa s i 1 fun a1 =>
ldc (.int .u64) w2.drew a1 fun (v : Int) =>
ixa b i 1 fun a2 =>
ldc (.int .u64) w2.drew a2 fun (v1 : Int) =>
cond ((v : Int) != v1) (
R (.bool false) w2.drew) (
bnd (wi (i + 1)) fun n =>
C0 n w2.drew)) (
J0 w2)) 0 w1) fun  w3 =>
R (.bool true) w3)
def Dc.zigguratref02_Same : Dc := { N := 29, va := [], vb := [], ann := [(2, 0, []), (3, 5, [(6, .one (.int .i64))])], ext := Xt }
theorem Eq.zigguratref02_Same (a : Sl) (b : Sl) (R : Value → TW → Prop) (w : TW) : denF Pg Dc.zigguratref02_Same Go.Proofs.Try.f28 (Go.Proofs.Try.f28.body.getD .skip) [a.v, b.v] w R = Sh.zigguratref02_Same a b R w := by kernel_rfl
theorem Ct.zigguratref02_Same {a : Sl} {b : Sl} {w : TW} {X : Nat → Prop} {K : Tel (fl [.one .bool]) (TW → Prop)} (h : Sh.zigguratref02_Same a b (Rt X [.one .bool] K w) w.here) : Ct Pg F.zigguratref02_Same [a.v, b.v] w X [.one .bool] K :=
  ct_of_den (D := Dc.zigguratref02_Same) (fn := Go.Proofs.Try.f28) Xt_ok follows_ok (by kernel_rfl) (by kernel_rfl) (by kernel_rfl) (Eq.mpr (Eq.zigguratref02_Same a b _ _) h)

def Sh.zigguratref02_Shl (a : Sl) (n : Int) (R : Value → TW → Prop) (w : TW) : Prop :=
cond (((a.n : Int) : Int) == 0) (
R (.slice none 0 0) w) (
divK .i64 n 32 fun n1 =>
divK .i64 n 32 fun n2 =>
bnd (wi (n2 + (a.n : Int))) fun n3 =>
bnd (wi (n3 + 1)) fun n4 =>
mks w n1 n4 T.uint64 8 [.int .u64 0] fun s w1 =>
Jn [.slice, .int .u64] (fun J0 =>
Lp [.slice, .int .u64, .int .i64] (fun (out : Sl) (c : Int) (i : Int) w2 C0 =>
cond (decide ((i : Int) < (a.n : Int))) (
ixa a i 1 fun a1 =>
ldc (.int .u64) w2 a1 fun (v : Int) =>
remK n 32 fun n5 =>
bnd (wu (n5)) fun n6 =>
shlK .u64 v n6 fun n7 =>
bnd (wu (c + n7)) fun n8 =>
remK n8 4294967296 fun n9 =>
nwb w2 [.int .u64 n9] T.uint64 fun b w3 =>
apd w3 T.uint64 1 8 out ⟨(some ⟨b, 0, none⟩), 1, 1⟩ fun s1 w4 =>
divK .u64 n8 4294967296 fun n10 =>
bnd (wi (i + 1)) fun n11 =>
C0 s1 n10 n11 w4) (
J0 out c w2)) s 0 0 w1) fun (out1 : Sl) (c1 : Int) w5 =>
nwb w5 [.int .u64 c1] T.uint64 fun b1 w6 =>
apd w6 T.uint64 1 8 out1 ⟨(some ⟨b1, 0, none⟩), 1, 1⟩ fun s2 w7 =>
cl Pg F.zigguratref02_norm [s2.v] w7 [.one .slice] fun (s3 : Sl) w8 =>
R (s3.v) w8)
def Dc.zigguratref02_Shl : Dc := { N := 48, va := [], vb := [], ann := [(2, 0, [(5, .one .slice), (6, .one (.int .u64))]), (3, 6, [(5, .one .slice), (6, .one (.int .u64)), (7, .one (.int .i64))])], ext := Xt }
theorem Eq.zigguratref02_Shl (a : Sl) (n : Int) (R : Value → TW → Prop) (w : TW) : denF Pg Dc.zigguratref02_Shl Go.Proofs.Try.f29 (Go.Proofs.Try.f29.body.getD .skip) [a.v, .int .i64 n] w R = Sh.zigguratref02_Shl a n R w := by kernel_rfl
theorem Ct.zigguratref02_Shl {a : Sl} {n : Int} {w : TW} {X : Nat → Prop} {K : Tel (fl [.one .slice]) (TW → Prop)} (h : Sh.zigguratref02_Shl a n (Rt X [.one .slice] K w) w.here) : Ct Pg F.zigguratref02_Shl [a.v, .int .i64 n] w X [.one .slice] K :=
  ct_of_den (D := Dc.zigguratref02_Shl) (fn := Go.Proofs.Try.f29) Xt_ok follows_ok (by kernel_rfl) (by kernel_rfl) (by kernel_rfl) (Eq.mpr (Eq.zigguratref02_Shl a n _ _) h)

def Sh.zigguratref02_Small (y : Int) (R : Value → TW → Prop) (w : TW) : Prop :=
nwb w [.int .u64 y] T.uint64 fun b w1 =>
cl Pg F.zigguratref02_From [.slice (some ⟨b, 0, none⟩) 1 1] w1 [.one .slice] fun (s : Sl) w2 =>
R (s.v) w2
def Dc.zigguratref02_Small : Dc := { N := 6, va := [], vb := [], ann := [], ext := Xt }
theorem Eq.zigguratref02_Small (y : Int) (R : Value → TW → Prop) (w : TW) : denF Pg Dc.zigguratref02_Small Go.Proofs.Try.f30 (Go.Proofs.Try.f30.body.getD .skip) [.int .u64 y] w R = Sh.zigguratref02_Small y R w := by kernel_rfl
theorem Ct.zigguratref02_Small {y : Int} {w : TW} {X : Nat → Prop} {K : Tel (fl [.one .slice]) (TW → Prop)} (h : Sh.zigguratref02_Small y (Rt X [.one .slice] K w) w.here) : Ct Pg F.zigguratref02_Small [.int .u64 y] w X [.one .slice] K :=
  ct_of_den (D := Dc.zigguratref02_Small) (fn := Go.Proofs.Try.f30) Xt_ok follows_ok (by kernel_rfl) (by kernel_rfl) (by kernel_rfl) (Eq.mpr (Eq.zigguratref02_Small y _ _) h)

def Sh.zigguratref02_From (a : Sl) (R : Value → TW → Prop) (w : TW) : Prop :=
bnd (wi (2 * (a.n : Int))) fun n =>
mks w 0 n T.uint64 8 [.int .u64 0] fun s w1 =>
Jn [.slice] (fun J0 =>
Lp [.slice, .int .i64] (fun (out : Sl) (i : Int) w2 C0 =>
cond (decide ((i : Int) < (a.n : Int))) (
ixa a i 1 fun a1 =>
ldc (.int .u64) w2.drew a1 fun (v : Int) =>
remK v 4294967296 fun n1 =>
ixa a i 1 fun a2 =>
ldc (.int .u64) w2.drew a2 fun (v1 : Int) =>
divK .u64 v1 4294967296 fun n2 =>
nwb w2.drew [.int .u64 n1, .int .u64 n2] T.uint64 fun b w3 =>
hld w3 [(a2, .int .u64 v1), (a1, .int .u64 v)] <|
apd w3 T.uint64 1 8 out ⟨(some ⟨b, 0, none⟩), 2, 2⟩ fun s1 w4 =>
hld w4 [(a2, .int .u64 v1), (a1, .int .u64 v)] <|
bnd (wi (i + 1)) fun n3 =>
C0 s1 n3 w4) (
J0 out w2)) s 0 w1) fun (out1 : Sl) w5 =>
cl Pg F.zigguratref02_norm [out1.v] w5 [.one .slice] fun (s2 : Sl) w6 =>
R (s2.v) w6
def Dc.zigguratref02_From : Dc := { N := 30, va := [], vb := [], ann := [(2, 0, [(3, .one .slice)]), (3, 3, [(3, .one .slice), (4, .one (.int .i64))])], ext := Xt }
theorem Eq.zigguratref02_From (a : Sl) (R : Value → TW → Prop) (w : TW) : denF Pg Dc.zigguratref02_From Go.Proofs.Try.f39 (Go.Proofs.Try.f39.body.getD .skip) [a.v] w R = Sh.zigguratref02_From a R w := by kernel_rfl
theorem Ct.zigguratref02_From {a : Sl} {w : TW} {X : Nat → Prop} {K : Tel (fl [.one .slice]) (TW → Prop)} (h : Sh.zigguratref02_From a (Rt X [.one .slice] K w) w.here) : Ct Pg F.zigguratref02_From [a.v] w X [.one .slice] K :=
  ct_of_den (D := Dc.zigguratref02_From) (fn := Go.Proofs.Try.f39) Xt_ok follows_ok (by kernel_rfl) (by kernel_rfl) (by kernel_rfl) (Eq.mpr (Eq.zigguratref02_From a _ _) h)

def Sh.zigguratref02_Bits (a : Sl) (R : Value → TW → Prop) (w : TW) : Prop :=
cond (((a.n : Int) : Int) == 0) (
R (.int .i64 0) w) (
bnd (wi ((a.n : Int) - 1)) fun n =>
bnd (wi (32 * n)) fun n1 =>
bnd (wi ((a.n : Int) - 1)) fun n2 =>
ixa a n2 1 fun a1 =>
ldc (.int .u64) w a1 fun (v : Int) =>
Jn [.int .i64] (fun J0 =>
Lp [.int .i64, .int .u64] (fun (n3 : Int) (y : Int) w1 C0 =>
cond (decide ((y : Int) > 0)) (
bnd (wi (n3 + 1)) fun n4 =>
divK .u64 y 2 fun n5 =>
C0 n4 n5 w1) (
J0 n3 w1)) n1 v w) fun (n6 : Int) w2 =>
R (.int .i64 n6) w2)
def Dc.zigguratref02_Bits : Dc := { N := 25, va := [], vb := [], ann := [(2, 0, [(3, .one (.int .i64))]), (3, 5, [(3, .one (.int .i64)), (4, .one (.int .u64))])], ext := Xt }
theorem Eq.zigguratref02_Bits (a : Sl) (R : Value → TW → Prop) (w : TW) : denF Pg Dc.zigguratref02_Bits Go.Proofs.Try.f45 (Go.Proofs.Try.f45.body.getD .skip) [a.v] w R = Sh.zigguratref02_Bits a R w := by kernel_rfl
theorem Ct.zigguratref02_Bits {a : Sl} {w : TW} {X : Nat → Prop} {K : Tel (fl [.one (.int .i64)]) (TW → Prop)} (h : Sh.zigguratref02_Bits a (Rt X [.one (.int .i64)] K w) w.here) : Ct Pg F.zigguratref02_Bits [a.v] w X [.one (.int .i64)] K :=
  ct_of_den (D := Dc.zigguratref02_Bits) (fn := Go.Proofs.Try.f45) Xt_ok follows_ok (by kernel_rfl) (by kernel_rfl) (by kernel_rfl) (Eq.mpr (Eq.zigguratref02_Bits a _ _) h)

def Sh.zigguratref02_To (a : Sl) (R : Value → TW → Prop) (w : TW) : Prop :=
Jn [.slice] (fun J0 =>
Lp [.slice, .int .i64] (fun (out : Sl) (i : Int) w1 C0 =>
cond (decide ((i : Int) < (a.n : Int))) (
ixa a i 1 fun a1 =>
ldc (.int .u64) w1 a1 fun (v : Int) =>
bnd (wi (i + 1)) fun n =>
Jn [.int .u64] (fun J1 =>
cond (decide ((n : Int) < (a.n : Int))) (
bnd (wi (i + 1)) fun n1 =>
ixa a n1 1 fun a2 =>
ldc (.int .u64) w1 a2 fun (v1 : Int) =>
bnd (wu (v1 * 4294967296)) fun n2 =>
bnd (wu (v + n2)) fun n3 =>
J1 n3 w1) (
J1 v w1)) fun (y : Int) w2 =>
nwb w2 [.int .u64 y] T.uint64 fun b w3 =>
apd w3 T.uint64 1 8 out ⟨(some ⟨b, 0, none⟩), 1, 1⟩ fun s w4 =>
bnd (wi (i + 2)) fun n4 =>
C0 s n4 w4) (
J0 out w1)) Sl.nil 0 w) fun (out1 : Sl) w5 =>
Jn [.slice] (fun J2 =>
Lp [.slice] (fun (out2 : Sl) w6 C1 =>
Jn [.bool] (fun J3 =>
cond (decide (((out2.n : Int) : Int) > 0)) (
bnd (wi ((out2.n : Int) - 1)) fun n5 =>
ixa out2 n5 1 fun a3 =>
ldc (.int .u64) w6 a3 fun (v2 : Int) =>
J3 ((v2 : Int) == 0) w6) (
J3 false w6)) fun (x : Bool) w7 =>
cond x (
bnd (wi ((out2.n : Int) - 1)) fun n6 =>
slc out2 0 n6 1 fun s1 =>
C1 s1 w7) (
J2 out2 w7)) out1 w5) fun (out3 : Sl) w8 =>
R (out3.v) w8
def Dc.zigguratref02_To : Dc := { N := 51, va := [], vb := [], ann := [(2, 0, [(3, .one .slice)]), (3, 3, [(3, .one .slice), (4, .one (.int .i64))]), (1, 7, [(5, .one (.int .u64))]), (2, 2, [(3, .one .slice)]), (3, 9, [(3, .one .slice)]), (0, 9, [(44, .one .bool)])], ext := Xt }
theorem Eq.zigguratref02_To (a : Sl) (R : Value → TW → Prop) (w : TW) : denF Pg Dc.zigguratref02_To Go.Proofs.Try.f47 (Go.Proofs.Try.f47.body.getD .skip) [a.v] w R = Sh.zigguratref02_To a R w := by kernel_rfl
theorem Ct.zigguratref02_To {a : Sl} {w : TW} {X : Nat → Prop} {K : Tel (fl [.one .slice]) (TW → Prop)} (h : Sh.zigguratref02_To a (Rt X [.one .slice] K w) w.here) : Ct Pg F.zigguratref02_To [a.v] w X [.one .slice] K :=
  ct_of_den (D := Dc.zigguratref02_To) (fn := Go.Proofs.Try.f47) Xt_ok follows_ok (by kernel_rfl) (by kernel_rfl) (by kernel_rfl) (Eq.mpr (Eq.zigguratref02_To a _ _) h)

def Sh.zigguratref02_norm (a : Sl) (R : Value → TW → Prop) (w : TW) : Prop :=
Jn [.int .i64] (fun J0 =>
Lp [.int .i64] (fun (k : Int) w1 C0 =>
Jn [.bool] (fun J1 =>
cond (decide ((k : Int) > 0)) (
bnd (wi (k - 1)) fun n =>
ixa a n 1 fun a1 =>
ldc (.int .u64) w1 a1 fun (v : Int) =>
J1 ((v : Int) == 0) w1) (
J1 false w1)) fun (x : Bool) w2 =>
cond x (
bnd (wi (k - 1)) fun n1 =>
C0 n1 w2) (
J0 k w2)) (a.n : Int) w) fun (k1 : Int) w3 =>
slc a 0 k1 1 fun s =>
R (s.v) w3
def Dc.zigguratref02_norm : Dc := { N := 21, va := [], vb := [], ann := [(2, 0, [(3, .one (.int .i64))]), (3, 2, [(3, .one (.int .i64))]), (0, 2, [(15, .one .bool)])], ext := Xt }
theorem Eq.zigguratref02_norm (a : Sl) (R : Value → TW → Prop) (w : TW) : denF Pg Dc.zigguratref02_norm Go.Proofs.Try.f63 (Go.Proofs.Try.f63.body.getD .skip) [a.v] w R = Sh.zigguratref02_norm a R w := by kernel_rfl
theorem Ct.zigguratref02_norm {a : Sl} {w : TW} {X : Nat → Prop} {K : Tel (fl [.one .slice]) (TW → Prop)} (h : Sh.zigguratref02_norm a (Rt X [.one .slice] K w) w.here) : Ct Pg F.zigguratref02_norm [a.v] w X [.one .slice] K :=
  ct_of_den (D := Dc.zigguratref02_norm) (fn := Go.Proofs.Try.f63) Xt_ok follows_ok (by kernel_rfl) (by kernel_rfl) (by kernel_rfl) (Eq.mpr (Eq.zigguratref02_norm a _ _) h)

def Sh.zigguratref02_Zero (a : Sl) (R : Value → TW → Prop) (w : TW) : Prop :=
R (.bool (((a.n : Int) : Int) == 0)) w
def Dc.zigguratref02_Zero : Dc := { N := 6, va := [], vb := [], ann := [], ext := Xt }
theorem Eq.zigguratref02_Zero (a : Sl) (R : Value → TW → Prop) (w : TW) : denF Pg Dc.zigguratref02_Zero Go.Proofs.Try.f64 (Go.Proofs.Try.f64.body.getD .skip) [a.v] w R = Sh.zigguratref02_Zero a R w := by kernel_rfl
theorem Ct.zigguratref02_Zero {a : Sl} {w : TW} {X : Nat → Prop} {K : Tel (fl [.one .bool]) (TW → Prop)} (h : Sh.zigguratref02_Zero a (Rt X [.one .bool] K w) w.here) : Ct Pg F.zigguratref02_Zero [a.v] w X [.one .bool] K :=
  ct_of_den (D := Dc.zigguratref02_Zero) (fn := Go.Proofs.Try.f64) Xt_ok follows_ok (by kernel_rfl) (by kernel_rfl) (by kernel_rfl) (Eq.mpr (Eq.zigguratref02_Zero a _ _) h)

def Sh.zigguratref02_Mod (a : Sl) (d : Sl) (R : Value → TW → Prop) (w : TW) : Prop :=
cl Pg F.zigguratref02_DivMod [a.v, d.v] w [.one .slice, .one .slice] fun (_ : Sl) (s1 : Sl) w1 =>
R (s1.v) w1
def Dc.zigguratref02_Mod : Dc := { N := 14, va := [], vb := [], ann := [], ext := Xt }
theorem Eq.zigguratref02_Mod (a : Sl) (d : Sl) (R : Value → TW → Prop) (w : TW) : denF Pg Dc.zigguratref02_Mod Go.Proofs.Try.f65 (Go.Proofs.Try.f65.body.getD .skip) [a.v, d.v] w R = Sh.zigguratref02_Mod a d R w := by kernel_rfl
theorem Ct.zigguratref02_Mod {a : Sl} {d : Sl} {w : TW} {X : Nat → Prop} {K : Tel (fl [.one .slice]) (TW → Prop)} (h : Sh.zigguratref02_Mod a d (Rt X [.one .slice] K w) w.here) : Ct Pg F.zigguratref02_Mod [a.v, d.v] w X [.one .slice] K :=
  ct_of_den (D := Dc.zigguratref02_Mod) (fn := Go.Proofs.Try.f65) Xt_ok follows_ok (by kernel_rfl) (by kernel_rfl) (by kernel_rfl) (Eq.mpr (Eq.zigguratref02_Mod a d _ _) h)

def Sh.zigguratref02_Cmp (a : Sl) (b : Sl) (R : Value → TW → Prop) (w : TW) : Prop :=
cond (((a.n : Int) : Int) != (b.n : Int)) (
cond (decide (((a.n : Int) : Int) < (b.n : Int))) (
R (.int .i64 (-1)) w) (
R (.int .i64 1) w)) (
bnd (wi ((a.n : Int) - 1)) fun n =>
Jn [] (fun J0 =>
Lp [.int .i64] (fun (i : Int) w1 C0 =>
cond (decide ((i : Int) ≥ 0)) (
ixa a i 1 fun a1 =>
ldc (.int .u64) w1.drew a1 fun (v : Int) =>
ixa b i 1 fun a2 =>
ldc (.int .u64) w1.drew a2 fun (v1 : Int) =>
cond (decide ((v : Int) < v1)) (
R (.int .i64 (-1)) w1.drew) (
ixa a i 1 fun a3 =>
ldc (.int .u64) w1.drew.drew a3 fun (v2 : Int) =>
ixa b i 1 fun a4 =>
ldc (.int .u64) w1.drew.drew a4 fun (v3 : Int) =>
cond (decide ((v2 : Int) > v3)) (
R (.int .i64 1) w1.drew.drew) (
bnd (wi (i - 1)) fun n1 =>
C0 n1 w1.drew.drew))) (
J0 w1)) n w) fun  w2 =>
R (.int .i64 0) w2)
def Dc.zigguratref02_Cmp : Dc := { N := 41, va := [], vb := [], ann := [(2, 0, []), (3, 6, [(5, .one (.int .i64))])], ext := Xt }
theorem Eq.zigguratref02_Cmp (a : Sl) (b : Sl) (R : Value → TW → Prop) (w : TW) : denF Pg Dc.zigguratref02_Cmp Go.Proofs.Try.f66 (Go.Proofs.Try.f66.body.getD .skip) [a.v, b.v] w R = Sh.zigguratref02_Cmp a b R w := by kernel_rfl
theorem Ct.zigguratref02_Cmp {a : Sl} {b : Sl} {w : TW} {X : Nat → Prop} {K : Tel (fl [.one (.int .i64)]) (TW → Prop)} (h : Sh.zigguratref02_Cmp a b (Rt X [.one (.int .i64)] K w) w.here) : Ct Pg F.zigguratref02_Cmp [a.v, b.v] w X [.one (.int .i64)] K :=
  ct_of_den (D := Dc.zigguratref02_Cmp) (fn := Go.Proofs.Try.f66) Xt_ok follows_ok (by kernel_rfl) (by kernel_rfl) (by kernel_rfl) (Eq.mpr (Eq.zigguratref02_Cmp a b _ _) h)

def Sh.zigguratref02_Add (a : Sl) (b : Sl) (R : Value → TW → Prop) (w : TW) : Prop :=
bnd (if ((b.n : Int) : Int) > (a.n : Int) then (b.n : Int) else (a.n : Int)) fun n =>
bnd (wi (n + 1)) fun n1 =>
mks w 0 n1 T.uint64 8 [.int .u64 0] fun s w1 =>
Jn [.slice] (fun J0 =>
Lp [.slice, .int .u64, .int .i64] (fun (out : Sl) (c : Int) (i : Int) w2 C0 =>
Jn [.bool] (fun J1 =>
cond (decide ((i : Int) < (a.n : Int))) (
J1 true w2) (
cond (decide ((i : Int) < (b.n : Int))) (
J1 true w2) (
J1 (decide ((c : Int) > 0)) w2))) fun (x : Bool) w3 =>
cond x (
Jn [.int .u64] (fun J2 =>
cond (decide ((i : Int) < (a.n : Int))) (
ixa a i 1 fun a1 =>
ldc (.int .u64) w3 a1 fun (v : Int) =>
bnd (wu (c + v)) fun n2 =>
J2 n2 w3) (
J2 c w3)) fun (c1 : Int) w4 =>
Jn [.int .u64] (fun J3 =>
cond (decide ((i : Int) < (b.n : Int))) (
ixa b i 1 fun a2 =>
ldc (.int .u64) w4 a2 fun (v1 : Int) =>
bnd (wu (c1 + v1)) fun n3 =>
J3 n3 w4) (
J3 c1 w4)) fun (c2 : Int) w5 =>
remK c2 4294967296 fun n4 =>
nwb w5 [.int .u64 n4] T.uint64 fun b1 w6 =>
apd w6 T.uint64 1 8 out ⟨(some ⟨b1, 0, none⟩), 1, 1⟩ fun s1 w7 =>
divK .u64 c2 4294967296 fun n5 =>
bnd (wi (i + 1)) fun n6 =>
C0 s1 n5 n6 w7) (
J0 out w3)) s 0 0 w1) fun (out1 : Sl) w8 =>
cl Pg F.zigguratref02_norm [out1.v] w8 [.one .slice] fun (s2 : Sl) w9 =>
R (s2.v) w9
def Dc.zigguratref02_Add : Dc := { N := 60, va := [], vb := [], ann := [(2, 0, [(5, .one .slice)]), (3, 4, [(5, .one .slice), (6, .one (.int .u64)), (7, .one (.int .i64))]), (0, 4, [(28, .one .bool)]), (1, 7, [(6, .one (.int .u64))]), (1, 9, [(6, .one (.int .u64))])], ext := Xt }
theorem Eq.zigguratref02_Add (a : Sl) (b : Sl) (R : Value → TW → Prop) (w : TW) : denF Pg Dc.zigguratref02_Add Go.Proofs.Try.f67 (Go.Proofs.Try.f67.body.getD .skip) [a.v, b.v] w R = Sh.zigguratref02_Add a b R w := by kernel_rfl
theorem Ct.zigguratref02_Add {a : Sl} {b : Sl} {w : TW} {X : Nat → Prop} {K : Tel (fl [.one .slice]) (TW → Prop)} (h : Sh.zigguratref02_Add a b (Rt X [.one .slice] K w) w.here) : Ct Pg F.zigguratref02_Add [a.v, b.v] w X [.one .slice] K :=
  ct_of_den (D := Dc.zigguratref02_Add) (fn := Go.Proofs.Try.f67) Xt_ok follows_ok (by kernel_rfl) (by kernel_rfl) (by kernel_rfl) (Eq.mpr (Eq.zigguratref02_Add a b _ _) h)

def Sh.zigguratref02_Sub (a : Sl) (b : Sl) (R : Value → TW → Prop) (w : TW) : Prop :=
mks w 0 (a.n : Int) T.uint64 8 [.int .u64 0] fun s w1 =>
Jn [.slice] (fun J0 =>
Lp [.slice, .int .u64, .int .i64] (fun (out : Sl) (c : Int) (i : Int) w2 C0 =>
cond (decide ((i : Int) < (a.n : Int))) (
Jn [.int .u64] (fun J1 =>
cond (decide ((i : Int) < (b.n : Int))) (
ixa b i 1 fun a1 =>
ldc (.int .u64) w2 a1 fun (v : Int) =>
bnd (wu (c + v)) fun n =>
J1 n w2) (
J1 c w2)) fun (s1 : Int) w3 =>
ixa a i 1 fun a2 =>
ldc (.int .u64) w3 a2 fun (v1 : Int) =>
Jn [.slice, .int .u64] (fun J2 =>
cond (decide ((v1 : Int) ≥ s1)) (
ixa a i 1 fun a3 =>
ldc (.int .u64) w3 a3 fun (v2 : Int) =>
bnd (wu (v2 - s1)) fun n1 =>
nwb w3 [.int .u64 n1] T.uint64 fun b1 w4 =>
apd w4 T.uint64 1 8 out ⟨(some ⟨b1, 0, none⟩), 1, 1⟩ fun s2 w5 =>
J2 s2 0 w5) (
ixa a i 1 fun a4 =>
ldc (.int .u64) w3 a4 fun (v3 : Int) =>
bnd (wu (v3 + 4294967296)) fun n2 =>
bnd (wu (n2 - s1)) fun n3 =>
nwb w3 [.int .u64 n3] T.uint64 fun b2 w6 =>
apd w6 T.uint64 1 8 out ⟨(some ⟨b2, 0, none⟩), 1, 1⟩ fun s3 w7 =>
J2 s3 1 w7)) fun (out1 : Sl) (c1 : Int) w8 =>
bnd (wi (i + 1)) fun n4 =>
C0 out1 c1 n4 w8) (
J0 out w2)) s 0 0 w1) fun (out2 : Sl) w9 =>
cl Pg F.zigguratref02_norm [out2.v] w9 [.one .slice] fun (s4 : Sl) w10 =>
R (s4.v) w10
def Dc.zigguratref02_Sub : Dc := { N := 56, va := [], vb := [], ann := [(2, 0, [(5, .one .slice)]), (3, 4, [(5, .one .slice), (6, .one (.int .u64)), (7, .one (.int .i64))]), (1, 8, [(8, .one (.int .u64))]), (1, 10, [(5, .one .slice), (6, .one (.int .u64))])], ext := Xt }
theorem Eq.zigguratref02_Sub (a : Sl) (b : Sl) (R : Value → TW → Prop) (w : TW) : denF Pg Dc.zigguratref02_Sub Go.Proofs.Try.f74 (Go.Proofs.Try.f74.body.getD .skip) [a.v, b.v] w R = Sh.zigguratref02_Sub a b R w := by kernel_rfl
theorem Ct.zigguratref02_Sub {a : Sl} {b : Sl} {w : TW} {X : Nat → Prop} {K : Tel (fl [.one .slice]) (TW → Prop)} (h : Sh.zigguratref02_Sub a b (Rt X [.one .slice] K w) w.here) : Ct Pg F.zigguratref02_Sub [a.v, b.v] w X [.one .slice] K :=
  ct_of_den (D := Dc.zigguratref02_Sub) (fn := Go.Proofs.Try.f74) Xt_ok follows_ok (by kernel_rfl) (by kernel_rfl) (by kernel_rfl) (Eq.mpr (Eq.zigguratref02_Sub a b _ _) h)

def Sh.zigguratref02_Mul (a : Sl) (b : Sl) (R : Value → TW → Prop) (w : TW) : Prop :=
bnd (wi ((a.n : Int) + (b.n : Int))) fun n =>
mks w n n T.uint64 8 [.int .u64 0] fun s w1 =>
Jn [] (fun J0 =>
Lp [.int .i64] (fun (i : Int) w2 C0 =>
cond (decide ((i : Int) < (a.n : Int))) (
Jn [.int .u64] (fun J1 =>
Lp [.int .u64, .int .i64] (fun (c : Int) (j : Int) w3 C1 =>
cond (decide ((j : Int) < (b.n : Int))) (
bnd (wi (i + j)) fun n1 =>
ixa s n1 1 fun a1 =>
ldc (.int .u64) w3.drew a1 fun (v : Int) =>
ixa a i 1 fun a2 =>
ldc (.int .u64) w3.drew a2 fun (v1 : Int) =>
ixa b j 1 fun a3 =>
ldc (.int .u64) w3.drew a3 fun (v2 : Int) =>
bnd (wu (v1 * v2)) fun n2 =>
bnd (wu (v + n2)) fun n3 =>
bnd (wu (n3 + c)) fun n4 =>
bnd (wi (i + j)) fun n5 =>
remK n4 4294967296 fun n6 =>
ixa s n5 1 fun a4 =>
stc w3.drew a4 (.int .u64 n6) fun w4 =>
divK .u64 n4 4294967296 fun n7 =>
bnd (wi (j + 1)) fun n8 =>
C1 n7 n8 w4) (
J1 c w3)) 0 0 w2) fun (c1 : Int) w5 =>
bnd (wi (i + (b.n : Int))) fun n9 =>
ixa s n9 1 fun a5 =>
stc w5 a5 (.int .u64 c1) fun w6 =>
bnd (wi (i + 1)) fun n10 =>
C0 n10 w6) (
J0 w2)) 0 w1) fun  w7 =>
cl Pg F.zigguratref02_norm [s.v] w7 [.one .slice] fun (s1 : Sl) w8 =>
R (s1.v) w8
def Dc.zigguratref02_Mul : Dc := { N := 64, va := [], vb := [], ann := [(2, 0, []), (3, 3, [(6, .one (.int .i64))]), (2, 2, [(7, .one (.int .u64))]), (3, 7, [(7, .one (.int .u64)), (8, .one (.int .i64))])], ext := Xt }
theorem Eq.zigguratref02_Mul (a : Sl) (b : Sl) (R : Value → TW → Prop) (w : TW) : denF Pg Dc.zigguratref02_Mul Go.Proofs.Try.f75 (Go.Proofs.Try.f75.body.getD .skip) [a.v, b.v] w R = Sh.zigguratref02_Mul a b R w := by kernel_rfl
theorem Ct.zigguratref02_Mul {a : Sl} {b : Sl} {w : TW} {X : Nat → Prop} {K : Tel (fl [.one .slice]) (TW → Prop)} (h : Sh.zigguratref02_Mul a b (Rt X [.one .slice] K w) w.here) : Ct Pg F.zigguratref02_Mul [a.v, b.v] w X [.one .slice] K :=
  ct_of_den (D := Dc.zigguratref02_Mul) (fn := Go.Proofs.Try.f75) Xt_ok follows_ok (by kernel_rfl) (by kernel_rfl) (by kernel_rfl) (Eq.mpr (Eq.zigguratref02_Mul a b _ _) h)

def Sh.zigguratref02_DivMod (a : Sl) (d : Sl) (R : Value → TW → Prop) (w : TW) : Prop :=
cl Pg F.zigguratref02_Cmp [a.v, d.v] w [.one (.int .i64)] fun (r : Int) w1 =>
cond (decide ((r : Int) < 0)) (
R (.tuple #[.slice none 0 0, a.v]) w1) (
bnd (wi ((d.n : Int) + 1)) fun n =>
mks w1 n n T.uint64 8 [.int .u64 0] fun s w2 =>
mks w2 (a.n : Int) (a.n : Int) T.uint64 8 [.int .u64 0] fun s1 w3 =>
cl Pg F.zigguratref02_Bits [a.v] w3 [.one (.int .i64)] fun (r1 : Int) w4 =>
bnd (wi (r1 - 1)) fun n1 =>
Jn [] (fun J0 =>
Lp [.int .i64] (fun (i : Int) w5 C0 =>
cond (decide ((i : Int) ≥ 0)) (
cl Pg F.zigguratref02_bit [a.v, .int .i64 i] w5 [.one (.int .u64)] fun (r2 : Int) w6 =>
cl Pg F.zigguratref02_twice [s.v, .int .u64 r2, d.v] w6 [.one .bool] fun (ok : Bool) w7 =>
Jn [] (fun J1 =>
cond ok (
divK .i64 i 32 fun n2 =>
ixa s1 n2 1 fun a1 =>
ldc (.int .u64) w7 a1 fun (v : Int) =>
remK i 32 fun n3 =>
bnd (wu (n3)) fun n4 =>
shlK .u64 1 n4 fun n5 =>
bnd (bits2 .or .u64 v n5) fun n6 =>
ixa s1 n2 1 fun a2 =>
stc w7 a2 (.int .u64 n6) fun w8 =>
J1 w8) (
J1 w7)) fun  w9 =>
bnd (wi (i - 1)) fun n7 =>
C0 n7 w9) (
J0 w5)) n1 w4) fun  w10 =>
cl Pg F.zigguratref02_norm [s1.v] w10 [.one .slice] fun (s2 : Sl) w11 =>
cl Pg F.zigguratref02_norm [s.v] w11 [.one .slice] fun (s3 : Sl) w12 =>
R (.tuple #[s2.v, s3.v]) w12)
def Dc.zigguratref02_DivMod : Dc := { N := 49, va := [], vb := [], ann := [(2, 0, []), (3, 6, [(8, .one (.int .i64))]), (1, 9, [])], ext := Xt }
theorem Eq.zigguratref02_DivMod (a : Sl) (d : Sl) (R : Value → TW → Prop) (w : TW) : denF Pg Dc.zigguratref02_DivMod Go.Proofs.Try.f86 (Go.Proofs.Try.f86.body.getD .skip) [a.v, d.v] w R = Sh.zigguratref02_DivMod a d R w := by kernel_rfl
theorem Ct.zigguratref02_DivMod {a : Sl} {d : Sl} {w : TW} {X : Nat → Prop} {K : Tel (fl [.one .slice, .one .slice]) (TW → Prop)} (h : Sh.zigguratref02_DivMod a d (Rt X [.one .slice, .one .slice] K w) w.here) : Ct Pg F.zigguratref02_DivMod [a.v, d.v] w X [.one .slice, .one .slice] K :=
  ct_of_den (D := Dc.zigguratref02_DivMod) (fn := Go.Proofs.Try.f86) Xt_ok follows_ok (by kernel_rfl) (by kernel_rfl) (by kernel_rfl) (Eq.mpr (Eq.zigguratref02_DivMod a d _ _) h)

def Sh.zigguratref02_twice (r : Sl) (b : Int) (d : Sl) (R : Value → TW → Prop) (w : TW) : Prop :=
Jn [] (fun J0 =>
Lp [.int .u64, .int .i64] (fun (b1 : Int) (i : Int) w1 C0 =>
cond (decide ((i : Int) < (r.n : Int))) (
ixa r i 1 fun a =>
ldc (.int .u64) w1 a fun (v : Int) =>
bnd (wu (2 * v)) fun n =>
bnd (wu (n + b1)) fun n1 =>
remK n1 4294967296 fun n2 =>
ixa r i 1 fun a1 =>
stc w1 a1 (.int .u64 n2) fun w2 =>
divK .u64 n1 4294967296 fun n3 =>
bnd (wi (i + 1)) fun n4 =>
C0 n3 n4 w2) (
J0 w1)) b 0 w) fun  w3 =>
bnd (wi ((r.n : Int) - 1)) fun n5 =>
Jn [.bool] (fun J1 =>
Lp [.bool, .int .i64] (fun (more : Bool) (i1 : Int) w4 C1 =>
cond (decide ((i1 : Int) ≥ 0)) (
Jn [.int .u64] (fun J2 =>
cond (decide ((i1 : Int) < (d.n : Int))) (
ixa d i1 1 fun a2 =>
ldc (.int .u64) w4 a2 fun (v1 : Int) =>
J2 v1 w4) (
J2 0 w4)) fun (y : Int) w5 =>
ixa r i1 1 fun a3 =>
ldc (.int .u64) w5 a3 fun (v2 : Int) =>
cond ((v2 : Int) != y) (
ixa r i1 1 fun a4 =>
ldc (.int .u64) w5 a4 fun (v3 : Int) =>
J1 (decide ((v3 : Int) > y)) w5) (
bnd (wi (i1 - 1)) fun n6 =>
C1 more n6 w5)) (
J1 more w4)) true n5 w3) fun (more1 : Bool) w6 =>
cond (!more1) (
R (.bool false) w6) (
Jn [] (fun J3 =>
Lp [.int .u64, .int .i64] (fun (c : Int) (i2 : Int) w7 C2 =>
cond (decide ((i2 : Int) < (r.n : Int))) (
Jn [.int .u64] (fun J4 =>
cond (decide ((i2 : Int) < (d.n : Int))) (
ixa d i2 1 fun a5 =>
ldc (.int .u64) w7 a5 fun (v4 : Int) =>
bnd (wu (c + v4)) fun n7 =>
J4 n7 w7) (
J4 c w7)) fun (s : Int) w8 =>
ixa r i2 1 fun a6 =>
ldc (.int .u64) w8 a6 fun (v5 : Int) =>
Jn [.int .u64] (fun J5 =>
cond (decide ((v5 : Int) ≥ s)) (
ixa r i2 1 fun a7 =>
ldc (.int .u64) w8 a7 fun (v6 : Int) =>
bnd (wu (v6 - s)) fun n8 =>
ixa r i2 1 fun a8 =>
stc w8 a8 (.int .u64 n8) fun w9 =>
J5 0 w9) (
ixa r i2 1 fun a9 =>
ldc (.int .u64) w8 a9 fun (v7 : Int) =>
bnd (wu (4294967296 - s)) fun n9 =>
bnd (wu (v7 + n9)) fun n10 =>
ixa r i2 1 fun a10 =>
stc w8 a10 (.int .u64 n10) fun w10 =>
J5 1 w10)) fun (c1 : Int) w11 =>
bnd (wi (i2 + 1)) fun n11 =>
C2 c1 n11 w11) (
J3 w7)) 0 0 w6) fun  w12 =>
R (.bool true) w12)
def Dc.zigguratref02_twice : Dc := { N := 102, va := [], vb := [], ann := [(2, 0, []), (3, 2, [(1, .one (.int .u64)), (7, .one (.int .i64))]), (2, 2, [(9, .one .bool)]), (3, 9, [(9, .one .bool), (10, .one (.int .i64))]), (1, 13, [(11, .one (.int .u64))]), (2, 4, []), (3, 20, [(12, .one (.int .u64)), (13, .one (.int .i64))]), (1, 24, [(14, .one (.int .u64))]), (1, 26, [(12, .one (.int .u64))])], ext := Xt }
theorem Eq.zigguratref02_twice (r : Sl) (b : Int) (d : Sl) (R : Value → TW → Prop) (w : TW) : denF Pg Dc.zigguratref02_twice Go.Proofs.Try.f88 (Go.Proofs.Try.f88.body.getD .skip) [r.v, .int .u64 b, d.v] w R = Sh.zigguratref02_twice r b d R w := by kernel_rfl
theorem Ct.zigguratref02_twice {r : Sl} {b : Int} {d : Sl} {w : TW} {X : Nat → Prop} {K : Tel (fl [.one .bool]) (TW → Prop)} (h : Sh.zigguratref02_twice r b d (Rt X [.one .bool] K w) w.here) : Ct Pg F.zigguratref02_twice [r.v, .int .u64 b, d.v] w X [.one .bool] K :=
  ct_of_den (D := Dc.zigguratref02_twice) (fn := Go.Proofs.Try.f88) Xt_ok follows_ok (by kernel_rfl) (by kernel_rfl) (by kernel_rfl) (Eq.mpr (Eq.zigguratref02_twice r b d _ _) h)

def Sh.zigguratref02_bit (a : Sl) (i : Int) (R : Value → TW → Prop) (w : TW) : Prop :=
divK .i64 i 32 fun n =>
ixa a n 1 fun a1 =>
ldc (.int .u64) w a1 fun (v : Int) =>
remK i 32 fun n1 =>
bnd (wu (n1)) fun n2 =>
shrK .u64 v n2 fun n3 =>
bnd (bits2 .and .u64 n3 1) fun n4 =>
R (.int .u64 n4) w
def Dc.zigguratref02_bit : Dc := { N := 15, va := [], vb := [], ann := [], ext := Xt }
theorem Eq.zigguratref02_bit (a : Sl) (i : Int) (R : Value → TW → Prop) (w : TW) : denF Pg Dc.zigguratref02_bit Go.Proofs.Try.f89 (Go.Proofs.Try.f89.body.getD .skip) [a.v, .int .i64 i] w R = Sh.zigguratref02_bit a i R w := by kernel_rfl
theorem Ct.zigguratref02_bit {a : Sl} {i : Int} {w : TW} {X : Nat → Prop} {K : Tel (fl [.one (.int .u64)]) (TW → Prop)} (h : Sh.zigguratref02_bit a i (Rt X [.one (.int .u64)] K w) w.here) : Ct Pg F.zigguratref02_bit [a.v, .int .i64 i] w X [.one (.int .u64)] K :=
  ct_of_den (D := Dc.zigguratref02_bit) (fn := Go.Proofs.Try.f89) Xt_ok follows_ok (by kernel_rfl) (by kernel_rfl) (by kernel_rfl) (Eq.mpr (Eq.zigguratref02_bit a i _ _) h)
end Go.Proofs.Ytgcnflfempaliaa.Zg
end

section
set_option maxRecDepth 100000
namespace Go.Proofs.Ytgcnflfempaliaa.Zg
def Sh.zigguratref17_From (a0 : Sl) (a1 : Bool) (R : Value → TW → Prop) (w : TW) : Prop :=
nwv w fun w1 =>
nwv w1 fun w2 =>
cl Pg F.zigguratref02_From [a0.v] w2.drew [.one .slice] fun (s : Sl) w3 =>
cl Pg F.zigguratref17_made [s.v, .bool a1] w3 [.agg [.slice, .bool]] fun (r : Sl) (r1 : Bool) w4 =>
nwv w4 fun w5 =>
R (.agg #[r.v, .bool r1]) w5
def Dc.zigguratref17_From : Dc := { N := 9, va := [(1, 9), (2, 11)], vb := [(9, 2), (11, 2)], ann := [], ext := Xt }
theorem Eq.zigguratref17_From (a0 : Sl) (a1 : Bool) (R : Value → TW → Prop) (w : TW) : denF Pg Dc.zigguratref17_From Go.Proofs.Try.f13 (Go.Proofs.Try.f13.body.getD .skip) [.agg #[a0.v, .bool a1]] w R = Sh.zigguratref17_From a0 a1 R w := by kernel_rfl
theorem Ct.zigguratref17_From {a0 : Sl} {a1 : Bool} {w : TW} {X : Nat → Prop} {K : Tel (fl [.agg [.slice, .bool]]) (TW → Prop)} (h : Sh.zigguratref17_From a0 a1 (Rt X [.agg [.slice, .bool]] K w) w.here) : Ct Pg F.zigguratref17_From [.agg #[a0.v, .bool a1]] w X [.agg [.slice, .bool]] K :=
  ct_of_den (D := Dc.zigguratref17_From) (fn := Go.Proofs.Try.f13) Xt_ok follows_ok (by kernel_rfl) (by kernel_rfl) (by kernel_rfl) (Eq.mpr (Eq.zigguratref17_From a0 a1 _ _) h)

def Sh.zigguratref17_To (a0 : Sl) (a1 : Bool) (R : Value → TW → Prop) (w : TW) : Prop :=
nwv w fun w1 =>
nwv w1 fun w2 =>
cl Pg F.zigguratref02_To [a0.v] w2.drew [.one .slice] fun (s : Sl) w3 =>
nwv w3 fun w4 =>
R (.agg #[s.v, .bool a1]) w4
def Dc.zigguratref17_To : Dc := { N := 9, va := [(1, 9), (2, 11)], vb := [(9, 2), (11, 2)], ann := [], ext := Xt }
theorem Eq.zigguratref17_To (a0 : Sl) (a1 : Bool) (R : Value → TW → Prop) (w : TW) : denF Pg Dc.zigguratref17_To Go.Proofs.Try.f18 (Go.Proofs.Try.f18.body.getD .skip) [.agg #[a0.v, .bool a1]] w R = Sh.zigguratref17_To a0 a1 R w := by kernel_rfl
theorem Ct.zigguratref17_To {a0 : Sl} {a1 : Bool} {w : TW} {X : Nat → Prop} {K : Tel (fl [.agg [.slice, .bool]]) (TW → Prop)} (h : Sh.zigguratref17_To a0 a1 (Rt X [.agg [.slice, .bool]] K w) w.here) : Ct Pg F.zigguratref17_To [.agg #[a0.v, .bool a1]] w X [.agg [.slice, .bool]] K :=
  ct_of_den (D := Dc.zigguratref17_To) (fn := Go.Proofs.Try.f18) Xt_ok follows_ok (by kernel_rfl) (by kernel_rfl) (by kernel_rfl) (Eq.mpr (Eq.zigguratref17_To a0 a1 _ _) h)

def Sh.zigguratref17_Small (n : Int) (R : Value → TW → Prop) (w : TW) : Prop :=
nwv w fun w1 =>
cond (decide ((n : Int) < 0)) (
bnd (wi (0 - n)) fun n1 =>
bnd (wu (n1)) fun n2 =>
cl Pg F.zigguratref02_Small [.int .u64 n2] w1 [.one .slice] fun (s : Sl) w2 =>
cl Pg F.zigguratref17_made [s.v, .bool true] w2 [.agg [.slice, .bool]] fun (r : Sl) (r1 : Bool) w3 =>
nwv w3 fun w4 =>
R (.agg #[r.v, .bool r1]) w4) (
bnd (wu (n)) fun n3 =>
cl Pg F.zigguratref02_Small [.int .u64 n3] w1 [.one .slice] fun (s1 : Sl) w5 =>
cl Pg F.zigguratref17_made [s1.v, .bool false] w5 [.agg [.slice, .bool]] fun (r2 : Sl) (r3 : Bool) w6 =>
nwv w6 fun w7 =>
R (.agg #[r2.v, .bool r3]) w7)
def Dc.zigguratref17_Small : Dc := { N := 14, va := [(2, 14)], vb := [(14, 2)], ann := [], ext := Xt }
theorem Eq.zigguratref17_Small (n : Int) (R : Value → TW → Prop) (w : TW) : denF Pg Dc.zigguratref17_Small Go.Proofs.Try.f26 (Go.Proofs.Try.f26.body.getD .skip) [.int .i64 n] w R = Sh.zigguratref17_Small n R w := by kernel_rfl
theorem Ct.zigguratref17_Small {n : Int} {w : TW} {X : Nat → Prop} {K : Tel (fl [.agg [.slice, .bool]]) (TW → Prop)} (h : Sh.zigguratref17_Small n (Rt X [.agg [.slice, .bool]] K w) w.here) : Ct Pg F.zigguratref17_Small [.int .i64 n] w X [.agg [.slice, .bool]] K :=
  ct_of_den (D := Dc.zigguratref17_Small) (fn := Go.Proofs.Try.f26) Xt_ok follows_ok (by kernel_rfl) (by kernel_rfl) (by kernel_rfl) (Eq.mpr (Eq.zigguratref17_Small n _ _) h)

def Sh.zigguratref17_Zero (a0 : Sl) (a1 : Bool) (R : Value → TW → Prop) (w : TW) : Prop :=
nwv w fun w1 =>
cl Pg F.zigguratref02_Zero [a0.v] w1 [.one .bool] fun (ok : Bool) w2 =>
R (.bool ok) w2
def Dc.zigguratref17_Zero : Dc := { N := 6, va := [(1, 6)], vb := [(6, 2)], ann := [], ext := Xt }
theorem Eq.zigguratref17_Zero (a0 : Sl) (a1 : Bool) (R : Value → TW → Prop) (w : TW) : denF Pg Dc.zigguratref17_Zero Go.Proofs.Try.f31 (Go.Proofs.Try.f31.body.getD .skip) [.agg #[a0.v, .bool a1]] w R = Sh.zigguratref17_Zero a0 a1 R w := by kernel_rfl
theorem Ct.zigguratref17_Zero {a0 : Sl} {a1 : Bool} {w : TW} {X : Nat → Prop} {K : Tel (fl [.one .bool]) (TW → Prop)} (h : Sh.zigguratref17_Zero a0 a1 (Rt X [.one .bool] K w) w.here) : Ct Pg F.zigguratref17_Zero [.agg #[a0.v, .bool a1]] w X [.one .bool] K :=
  ct_of_den (D := Dc.zigguratref17_Zero) (fn := Go.Proofs.Try.f31) Xt_ok follows_ok (by kernel_rfl) (by kernel_rfl) (by kernel_rfl) (Eq.mpr (Eq.zigguratref17_Zero a0 a1 _ _) h)

def Sh.zigguratref17_Signed (r : Sl) (m : Sl) (R : Value → TW → Prop) (w : TW) : Prop :=
nwv w fun w1 =>
cl Pg F.zigguratref02_Mod [r.v, m.v] w1 [.one .slice] fun (s : Sl) w2 =>
cl Pg F.zigguratref02_Add [s.v, s.v] w2 [.one .slice] fun (s1 : Sl) w3 =>
cl Pg F.zigguratref02_Cmp [s1.v, m.v] w3 [.one (.int .i64)] fun (r1 : Int) w4 =>
cond (decide ((r1 : Int) > 0)) (
cl Pg F.zigguratref17_Nat [s.v] w4 [.agg [.slice, .bool]] fun (r2 : Sl) (r3 : Bool) w5 =>
cl Pg F.zigguratref17_Nat [m.v] w5 [.agg [.slice, .bool]] fun (r4 : Sl) (r5 : Bool) w6 =>
cl Pg F.zigguratref17_Sub [.agg #[r2.v, .bool r3], .agg #[r4.v, .bool r5]] w6 [.agg [.slice, .bool]] fun (r6 : Sl) (r7 : Bool) w7 =>
nwv w7 fun w8 =>
R (.agg #[r6.v, .bool r7]) w8) (
cl Pg F.zigguratref17_Nat [s.v] w4 [.agg [.slice, .bool]] fun (r8 : Sl) (r9 : Bool) w9 =>
nwv w9 fun w10 =>
R (.agg #[r8.v, .bool r9]) w10)
def Dc.zigguratref17_Signed : Dc := { N := 21, va := [(4, 21)], vb := [(21, 2)], ann := [], ext := Xt }
theorem Eq.zigguratref17_Signed (r : Sl) (m : Sl) (R : Value → TW → Prop) (w : TW) : denF Pg Dc.zigguratref17_Signed Go.Proofs.Try.f32 (Go.Proofs.Try.f32.body.getD .skip) [r.v, m.v] w R = Sh.zigguratref17_Signed r m R w := by kernel_rfl
theorem Ct.zigguratref17_Signed {r : Sl} {m : Sl} {w : TW} {X : Nat → Prop} {K : Tel (fl [.agg [.slice, .bool]]) (TW → Prop)} (h : Sh.zigguratref17_Signed r m (Rt X [.agg [.slice, .bool]] K w) w.here) : Ct Pg F.zigguratref17_Signed [r.v, m.v] w X [.agg [.slice, .bool]] K :=
  ct_of_den (D := Dc.zigguratref17_Signed) (fn := Go.Proofs.Try.f32) Xt_ok follows_ok (by kernel_rfl) (by kernel_rfl) (by kernel_rfl) (Eq.mpr (Eq.zigguratref17_Signed r m _ _) h)

def Sh.zigguratref17_Residue (a0 : Sl) (a1 : Bool) (m : Sl) (R : Value → TW → Prop) (w : TW) : Prop :=
nwv w fun w1 =>
(cl Pg F.zigguratref17_Nat [m.v] w1.drew [.agg [.slice, .bool]] fun (r : Sl) (r1 : Bool) w2 =>
(cl Pg F.zigguratref17_Euclid [.agg #[a0.v, .bool a1], .agg #[r.v, .bool r1]] w2 [.agg [.slice, .bool], .agg [.slice, .bool]] fun (_ : Sl) (_ : Bool) (r4 : Sl) (_ : Bool) w3 =>
(nwv w3 fun w4 =>
nwv w4 fun w5 =>
nwv w5 fun w6 =>
nwv w6 fun w7 =>
R (r4.v) w7) ∧
(nwv w3 fun w8 =>
nwv w8 fun w9 =>
nwv w9 fun w10 =>
nwv w10 fun w11 =>
R (r4.v) w11)) ∧
(nwv w2 fun w12 =>
(cl Pg F.zigguratref17_Euclid [.agg #[a0.v, .bool a1], .agg #[r.v, .bool r1]] w12 [.agg [.slice, .bool], .agg [.slice, .bool]] fun (_ : Sl) (_ : Bool) (r8 : Sl) (_ : Bool) w13 =>
nwv w13 fun w14 =>
nwv w14 fun w15 =>
nwv w15 fun w16 =>
R (r8.v) w16) ∧
(nwv w12 fun w17 =>
cl Pg F.zigguratref17_Euclid [.agg #[a0.v, .bool a1], .agg #[r.v, .bool r1]] w17 [.agg [.slice, .bool], .agg [.slice, .bool]] fun (_ : Sl) (_ : Bool) (r12 : Sl) (_ : Bool) w18 =>
nwv w18 fun w19 =>
nwv w19 fun w20 =>
R (r12.v) w20)) ∧
(nwv w2 fun w21 =>
(cl Pg F.zigguratref17_Euclid [.agg #[a0.v, .bool a1], .agg #[r.v, .bool r1]] w21 [.agg [.slice, .bool], .agg [.slice, .bool]] fun (_ : Sl) (_ : Bool) (r16 : Sl) (_ : Bool) w22 =>
nwv w22 fun w23 =>
nwv w23 fun w24 =>
nwv w24 fun w25 =>
R (r16.v) w25) ∧
(nwv w21 fun w26 =>
cl Pg F.zigguratref17_Euclid [.agg #[a0.v, .bool a1], .agg #[r.v, .bool r1]] w26 [.agg [.slice, .bool], .agg [.slice, .bool]] fun (_ : Sl) (_ : Bool) (r20 : Sl) (_ : Bool) w27 =>
nwv w27 fun w28 =>
nwv w28 fun w29 =>
R (r20.v) w29))) ∧
(nwv w1.drew fun w30 =>
(cl Pg F.zigguratref17_Nat [m.v] w30 [.agg [.slice, .bool]] fun (r22 : Sl) (r23 : Bool) w31 =>
(cl Pg F.zigguratref17_Euclid [.agg #[a0.v, .bool a1], .agg #[r22.v, .bool r23]] w31 [.agg [.slice, .bool], .agg [.slice, .bool]] fun (_ : Sl) (_ : Bool) (r26 : Sl) (_ : Bool) w32 =>
nwv w32 fun w33 =>
nwv w33 fun w34 =>
nwv w34 fun w35 =>
R (r26.v) w35) ∧
(nwv w31 fun w36 =>
cl Pg F.zigguratref17_Euclid [.agg #[a0.v, .bool a1], .agg #[r22.v, .bool r23]] w36 [.agg [.slice, .bool], .agg [.slice, .bool]] fun (_ : Sl) (_ : Bool) (r30 : Sl) (_ : Bool) w37 =>
nwv w37 fun w38 =>
nwv w38 fun w39 =>
R (r30.v) w39)) ∧
(nwv w30 fun w40 =>
cl Pg F.zigguratref17_Nat [m.v] w40 [.agg [.slice, .bool]] fun (r32 : Sl) (r33 : Bool) w41 =>
cl Pg F.zigguratref17_Euclid [.agg #[a0.v, .bool a1], .agg #[r32.v, .bool r33]] w41 [.agg [.slice, .bool], .agg [.slice, .bool]] fun (_ : Sl) (_ : Bool) (r36 : Sl) (_ : Bool) w42 =>
nwv w42 fun w43 =>
nwv w43 fun w44 =>
R (r36.v) w44)) ∧
(nwv w1.drew fun w45 =>
(cl Pg F.zigguratref17_Nat [m.v] w45 [.agg [.slice, .bool]] fun (r38 : Sl) (r39 : Bool) w46 =>
(cl Pg F.zigguratref17_Euclid [.agg #[a0.v, .bool a1], .agg #[r38.v, .bool r39]] w46 [.agg [.slice, .bool], .agg [.slice, .bool]] fun (_ : Sl) (_ : Bool) (r42 : Sl) (_ : Bool) w47 =>
nwv w47 fun w48 =>
nwv w48 fun w49 =>
nwv w49 fun w50 =>
R (r42.v) w50) ∧
(nwv w46 fun w51 =>
cl Pg F.zigguratref17_Euclid [.agg #[a0.v, .bool a1], .agg #[r38.v, .bool r39]] w51 [.agg [.slice, .bool], .agg [.slice, .bool]] fun (_ : Sl) (_ : Bool) (r46 : Sl) (_ : Bool) w52 =>
nwv w52 fun w53 =>
nwv w53 fun w54 =>
R (r46.v) w54)) ∧
(nwv w45 fun w55 =>
cl Pg F.zigguratref17_Nat [m.v] w55 [.agg [.slice, .bool]] fun (r48 : Sl) (r49 : Bool) w56 =>
cl Pg F.zigguratref17_Euclid [.agg #[a0.v, .bool a1], .agg #[r48.v, .bool r49]] w56 [.agg [.slice, .bool], .agg [.slice, .bool]] fun (_ : Sl) (_ : Bool) (r52 : Sl) (_ : Bool) w57 =>
nwv w57 fun w58 =>
nwv w58 fun w59 =>
R (r52.v) w59))
def Dc.zigguratref17_Residue : Dc := { N := 16, va := [(2, 16), (5, 18), (6, 20)], vb := [(16, 2), (18, 2), (20, 2)], ann := [], ext := Xt }
theorem Eq.zigguratref17_Residue (a0 : Sl) (a1 : Bool) (m : Sl) (R : Value → TW → Prop) (w : TW) : denF Pg Dc.zigguratref17_Residue Go.Proofs.Try.f33 (Go.Proofs.Try.f33.body.getD .skip) [.agg #[a0.v, .bool a1], m.v] w R = Sh.zigguratref17_Residue a0 a1 m R w := by kernel_rfl
theorem Ct.zigguratref17_Residue {a0 : Sl} {a1 : Bool} {m : Sl} {w : TW} {X : Nat → Prop} {K : Tel (fl [.one .slice]) (TW → Prop)} (h : Sh.zigguratref17_Residue a0 a1 m (Rt X [.one .slice] K w) w.here) : Ct Pg F.zigguratref17_Residue [.agg #[a0.v, .bool a1], m.v] w X [.one .slice] K :=
  ct_of_den (D := Dc.zigguratref17_Residue) (fn := Go.Proofs.Try.f33) Xt_ok follows_ok (by kernel_rfl) (by kernel_rfl) (by kernel_rfl) (Eq.mpr (Eq.zigguratref17_Residue a0 a1 m _ _) h)

def Sh.zigguratref17_Floor (a0 : Sl) (a1 : Bool) (b0 : Sl) (b1 : Bool) (R : Value → TW → Prop) (w : TW) : Prop :=
nwv w fun w1 =>
nwv w1 fun w2 =>
nwv w2 fun w3 =>
nwv w3 fun w4 =>
cl Pg F.zigguratref17_Trunc [.agg #[a0.v, .bool a1], .agg #[b0.v, .bool b1]] w4 [.agg [.slice, .bool], .agg [.slice, .bool]] fun (r : Sl) (r1 : Bool) (r2 : Sl) (r3 : Bool) w5 =>
nwv w5 fun w6 =>
nwv w6 fun w7 =>
nwv w7 fun w8 =>
nwv w8 fun w9 =>
Jn [.bool, .slice, .bool, .slice, .bool, .slice, .bool, .slice, .bool, .slice, .bool] (fun J0 =>
cl Pg F.zigguratref17_Zero [.agg #[r2.v, .bool r3]] w9 [.one .bool] fun (ok : Bool) w10 =>
cond (!ok) (
J0 (!(r3 == b1)) b0 b1 Sl.nil false Sl.nil false r r1 r2 r3 w10) (
J0 false b0 b1 Sl.nil false Sl.nil false r r1 r2 r3 w10)) fun (x : Bool) (b2 : Sl) (b3 : Bool) (_ : Sl) (_ : Bool) (_ : Sl) (_ : Bool) (q : Sl) (q1 : Bool) (r4 : Sl) (r5 : Bool) w11 =>
cond x (
cl Pg F.zigguratref17_Small [.int .i64 1] w11.drew [.agg [.slice, .bool]] fun (r6 : Sl) (r7 : Bool) w12 =>
cl Pg F.zigguratref17_Sub [.agg #[q.v, .bool q1], .agg #[r6.v, .bool r7]] w12 [.agg [.slice, .bool]] fun (r8 : Sl) (r9 : Bool) w13 =>
cl Pg F.zigguratref17_Add [.agg #[r4.v, .bool r5], .agg #[b2.v, .bool b3]] w13 [.agg [.slice, .bool]] fun (r10 : Sl) (r11 : Bool) w14 =>
nwv w14 fun w15 =>
nwv w15 fun w16 =>
R (.tuple #[.agg #[r8.v, .bool r9], .agg #[r10.v, .bool r11]]) w16) (
nwv w11.drew fun w17 =>
nwv w17 fun w18 =>
R (.tuple #[.agg #[q.v, .bool q1], .agg #[r4.v, .bool r5]]) w18)
def Dc.zigguratref17_Floor : Dc := { N := 32, va := [(2, 32), (3, 34), (4, 36), (5, 38), (6, 40), (7, 42)], vb := [(32, 2), (34, 2), (36, 2), (38, 2), (40, 2), (42, 2)], ann := [(0, 2, [(23, .one .bool), (34, .one .slice), (35, .one .bool), (36, .one .slice), (37, .one .bool), (38, .one .slice), (39, .one .bool), (40, .one .slice), (41, .one .bool), (42, .one .slice), (43, .one .bool)])], ext := Xt }
theorem Eq.zigguratref17_Floor (a0 : Sl) (a1 : Bool) (b0 : Sl) (b1 : Bool) (R : Value → TW → Prop) (w : TW) : denF Pg Dc.zigguratref17_Floor Go.Proofs.Try.f34 (Go.Proofs.Try.f34.body.getD .skip) [.agg #[a0.v, .bool a1], .agg #[b0.v, .bool b1]] w R = Sh.zigguratref17_Floor a0 a1 b0 b1 R w := by kernel_rfl
theorem Ct.zigguratref17_Floor {a0 : Sl} {a1 : Bool} {b0 : Sl} {b1 : Bool} {w : TW} {X : Nat → Prop} {K : Tel (fl [.agg [.slice, .bool], .agg [.slice, .bool]]) (TW → Prop)} (h : Sh.zigguratref17_Floor a0 a1 b0 b1 (Rt X [.agg [.slice, .bool], .agg [.slice, .bool]] K w) w.here) : Ct Pg F.zigguratref17_Floor [.agg #[a0.v, .bool a1], .agg #[b0.v, .bool b1]] w X [.agg [.slice, .bool], .agg [.slice, .bool]] K :=
  ct_of_den (D := Dc.zigguratref17_Floor) (fn := Go.Proofs.Try.f34) Xt_ok follows_ok (by kernel_rfl) (by kernel_rfl) (by kernel_rfl) (Eq.mpr (Eq.zigguratref17_Floor a0 a1 b0 b1 _ _) h)

def Sh.zigguratref17_Sub (a0 : Sl) (a1 : Bool) (b0 : Sl) (b1 : Bool) (R : Value → TW → Prop) (w : TW) : Prop :=
nwv w fun w1 =>
nwv w1 fun w2 =>
nwv w2 fun w3 =>
cl Pg F.zigguratref17_Neg [.agg #[b0.v, .bool b1]] w3.drew [.agg [.slice, .bool]] fun (r : Sl) (r1 : Bool) w4 =>
cl Pg F.zigguratref17_Add [.agg #[a0.v, .bool a1], .agg #[r.v, .bool r1]] w4 [.agg [.slice, .bool]] fun (r2 : Sl) (r3 : Bool) w5 =>
nwv w5 fun w6 =>
R (.agg #[r2.v, .bool r3]) w6
def Dc.zigguratref17_Sub : Dc := { N := 9, va := [(2, 9), (3, 11), (4, 13)], vb := [(9, 2), (11, 2), (13, 2)], ann := [], ext := Xt }
theorem Eq.zigguratref17_Sub (a0 : Sl) (a1 : Bool) (b0 : Sl) (b1 : Bool) (R : Value → TW → Prop) (w : TW) : denF Pg Dc.zigguratref17_Sub Go.Proofs.Try.f35 (Go.Proofs.Try.f35.body.getD .skip) [.agg #[a0.v, .bool a1], .agg #[b0.v, .bool b1]] w R = Sh.zigguratref17_Sub a0 a1 b0 b1 R w := by kernel_rfl
theorem Ct.zigguratref17_Sub {a0 : Sl} {a1 : Bool} {b0 : Sl} {b1 : Bool} {w : TW} {X : Nat → Prop} {K : Tel (fl [.agg [.slice, .bool]]) (TW → Prop)} (h : Sh.zigguratref17_Sub a0 a1 b0 b1 (Rt X [.agg [.slice, .bool]] K w) w.here) : Ct Pg F.zigguratref17_Sub [.agg #[a0.v, .bool a1], .agg #[b0.v, .bool b1]] w X [.agg [.slice, .bool]] K :=
  ct_of_den (D := Dc.zigguratref17_Sub) (fn := Go.Proofs.Try.f35) Xt_ok follows_ok (by kernel_rfl) (by kernel_rfl) (by kernel_rfl) (Eq.mpr (Eq.zigguratref17_Sub a0 a1 b0 b1 _ _) h)

def Sh.zigguratref17_Nat (n : Sl) (R : Value → TW → Prop) (w : TW) : Prop :=
nwv w fun w1 =>
nwv w1 fun w2 =>
R (.agg #[n.v, .bool false]) w2
def Dc.zigguratref17_Nat : Dc := { N := 5, va := [(2, 5)], vb := [(5, 2)], ann := [], ext := Xt }
theorem Eq.zigguratref17_Nat (n : Sl) (R : Value → TW → Prop) (w : TW) : denF Pg Dc.zigguratref17_Nat Go.Proofs.Try.f36 (Go.Proofs.Try.f36.body.getD .skip) [n.v] w R = Sh.zigguratref17_Nat n R w := by kernel_rfl
theorem Ct.zigguratref17_Nat {n : Sl} {w : TW} {X : Nat → Prop} {K : Tel (fl [.agg [.slice, .bool]]) (TW → Prop)} (h : Sh.zigguratref17_Nat n (Rt X [.agg [.slice, .bool]] K w) w.here) : Ct Pg F.zigguratref17_Nat [n.v] w X [.agg [.slice, .bool]] K :=
  ct_of_den (D := Dc.zigguratref17_Nat) (fn := Go.Proofs.Try.f36) Xt_ok follows_ok (by kernel_rfl) (by kernel_rfl) (by kernel_rfl) (Eq.mpr (Eq.zigguratref17_Nat n _ _) h)

def Sh.zigguratref17_made (n : Sl) (neg : Bool) (R : Value → TW → Prop) (w : TW) : Prop :=
nwv w fun w1 =>
Jn [.slice, .bool] (fun J0 =>
cond neg (
cl Pg F.zigguratref02_Zero [n.v] w1 [.one .bool] fun (ok : Bool) w2 =>
nwv w2 fun w3 =>
J0 n (!ok) w3) (
nwv w1 fun w4 =>
J0 n false w4)) fun (x : Sl) (x1 : Bool) w5 =>
R (.agg #[x.v, .bool x1]) w5
def Dc.zigguratref17_made : Dc := { N := 13, va := [(4, 13)], vb := [(13, 2)], ann := [(0, 1, [(13, .one .slice), (14, .one .bool)])], ext := Xt }
theorem Eq.zigguratref17_made (n : Sl) (neg : Bool) (R : Value → TW → Prop) (w : TW) : denF Pg Dc.zigguratref17_made Go.Proofs.Try.f38 (Go.Proofs.Try.f38.body.getD .skip) [n.v, .bool neg] w R = Sh.zigguratref17_made n neg R w := by kernel_rfl
theorem Ct.zigguratref17_made {n : Sl} {neg : Bool} {w : TW} {X : Nat → Prop} {K : Tel (fl [.agg [.slice, .bool]]) (TW → Prop)} (h : Sh.zigguratref17_made n neg (Rt X [.agg [.slice, .bool]] K w) w.here) : Ct Pg F.zigguratref17_made [n.v, .bool neg] w X [.agg [.slice, .bool]] K :=
  ct_of_den (D := Dc.zigguratref17_made) (fn := Go.Proofs.Try.f38) Xt_ok follows_ok (by kernel_rfl) (by kernel_rfl) (by kernel_rfl) (Eq.mpr (Eq.zigguratref17_made n neg _ _) h)

def Sh.zigguratref17_Add (a0 : Sl) (a1 : Bool) (b0 : Sl) (b1 : Bool) (R : Value → TW → Prop) (w : TW) : Prop :=
nwv w fun w1 =>
nwv w1 fun w2 =>
nwv w2 fun w3 =>
cond (a1 == b1) (
cl Pg F.zigguratref02_Add [a0.v, b0.v] w3.drew [.one .slice] fun (s : Sl) w4 =>
cl Pg F.zigguratref17_made [s.v, .bool a1] w4 [.agg [.slice, .bool]] fun (r : Sl) (r1 : Bool) w5 =>
nwv w5 fun w6 =>
R (.agg #[r.v, .bool r1]) w6) (
cl Pg F.zigguratref02_Cmp [a0.v, b0.v] w3 [.one (.int .i64)] fun (r2 : Int) w7 =>
cond (decide ((r2 : Int) ≥ 0)) (
cl Pg F.zigguratref02_Sub [a0.v, b0.v] w7.drew [.one .slice] fun (s1 : Sl) w8 =>
cl Pg F.zigguratref17_made [s1.v, .bool a1] w8 [.agg [.slice, .bool]] fun (r3 : Sl) (r4 : Bool) w9 =>
nwv w9 fun w10 =>
R (.agg #[r3.v, .bool r4]) w10) (
cl Pg F.zigguratref02_Sub [b0.v, a0.v] w7.drew [.one .slice] fun (s2 : Sl) w11 =>
cl Pg F.zigguratref17_made [s2.v, .bool b1] w11 [.agg [.slice, .bool]] fun (r5 : Sl) (r6 : Bool) w12 =>
nwv w12 fun w13 =>
R (.agg #[r5.v, .bool r6]) w13))
def Dc.zigguratref17_Add : Dc := { N := 40, va := [(2, 40), (3, 42), (4, 44)], vb := [(40, 2), (42, 2), (44, 2)], ann := [], ext := Xt }
theorem Eq.zigguratref17_Add (a0 : Sl) (a1 : Bool) (b0 : Sl) (b1 : Bool) (R : Value → TW → Prop) (w : TW) : denF Pg Dc.zigguratref17_Add Go.Proofs.Try.f48 (Go.Proofs.Try.f48.body.getD .skip) [.agg #[a0.v, .bool a1], .agg #[b0.v, .bool b1]] w R = Sh.zigguratref17_Add a0 a1 b0 b1 R w := by kernel_rfl
theorem Ct.zigguratref17_Add {a0 : Sl} {a1 : Bool} {b0 : Sl} {b1 : Bool} {w : TW} {X : Nat → Prop} {K : Tel (fl [.agg [.slice, .bool]]) (TW → Prop)} (h : Sh.zigguratref17_Add a0 a1 b0 b1 (Rt X [.agg [.slice, .bool]] K w) w.here) : Ct Pg F.zigguratref17_Add [.agg #[a0.v, .bool a1], .agg #[b0.v, .bool b1]] w X [.agg [.slice, .bool]] K :=
  ct_of_den (D := Dc.zigguratref17_Add) (fn := Go.Proofs.Try.f48) Xt_ok follows_ok (by kernel_rfl) (by kernel_rfl) (by kernel_rfl) (Eq.mpr (Eq.zigguratref17_Add a0 a1 b0 b1 _ _) h)

def Sh.zigguratref17_Mul (a0 : Sl) (a1 : Bool) (b0 : Sl) (b1 : Bool) (R : Value → TW → Prop) (w : TW) : Prop :=
nwv w fun w1 =>
nwv w1 fun w2 =>
nwv w2 fun w3 =>
cl Pg F.zigguratref02_Mul [a0.v, b0.v] w3.drew [.one .slice] fun (s : Sl) w4 =>
cl Pg F.zigguratref17_made [s.v, .bool (!(a1 == b1))] w4 [.agg [.slice, .bool]] fun (r : Sl) (r1 : Bool) w5 =>
nwv w5 fun w6 =>
R (.agg #[r.v, .bool r1]) w6
def Dc.zigguratref17_Mul : Dc := { N := 16, va := [(2, 16), (3, 18), (4, 20)], vb := [(16, 2), (18, 2), (20, 2)], ann := [], ext := Xt }
theorem Eq.zigguratref17_Mul (a0 : Sl) (a1 : Bool) (b0 : Sl) (b1 : Bool) (R : Value → TW → Prop) (w : TW) : denF Pg Dc.zigguratref17_Mul Go.Proofs.Try.f49 (Go.Proofs.Try.f49.body.getD .skip) [.agg #[a0.v, .bool a1], .agg #[b0.v, .bool b1]] w R = Sh.zigguratref17_Mul a0 a1 b0 b1 R w := by kernel_rfl
theorem Ct.zigguratref17_Mul {a0 : Sl} {a1 : Bool} {b0 : Sl} {b1 : Bool} {w : TW} {X : Nat → Prop} {K : Tel (fl [.agg [.slice, .bool]]) (TW → Prop)} (h : Sh.zigguratref17_Mul a0 a1 b0 b1 (Rt X [.agg [.slice, .bool]] K w) w.here) : Ct Pg F.zigguratref17_Mul [.agg #[a0.v, .bool a1], .agg #[b0.v, .bool b1]] w X [.agg [.slice, .bool]] K :=
  ct_of_den (D := Dc.zigguratref17_Mul) (fn := Go.Proofs.Try.f49) Xt_ok follows_ok (by kernel_rfl) (by kernel_rfl) (by kernel_rfl) (Eq.mpr (Eq.zigguratref17_Mul a0 a1 b0 b1 _ _) h)

def Sh.zigguratref17_Euclid (a0 : Sl) (a1 : Bool) (b0 : Sl) (b1 : Bool) (R : Value → TW → Prop) (w : TW) : Prop :=
nwv w fun w1 =>
nwv w1 fun w2 =>
nwv w2 fun w3 =>
nwv w3 fun w4 =>
cl Pg F.zigguratref17_Trunc [.agg #[a0.v, .bool a1], .agg #[b0.v, .bool b1]] w4 [.agg [.slice, .bool], .agg [.slice, .bool]] fun (r : Sl) (r1 : Bool) (r2 : Sl) (r3 : Bool) w5 =>
nwv w5 fun w6 =>
nwv w6 fun w7 =>
nwv w7 fun w8 =>
nwv w8 fun w9 =>
cond (!r3) (
nwv w9.drew fun w10 =>
nwv w10 fun w11 =>
R (.tuple #[.agg #[r.v, .bool r1], .agg #[r2.v, .bool r3]]) w11) (
cond b1 (
cl Pg F.zigguratref17_Small [.int .i64 1] w9.drew [.agg [.slice, .bool]] fun (r4 : Sl) (r5 : Bool) w12 =>
cl Pg F.zigguratref17_Add [.agg #[r.v, .bool r1], .agg #[r4.v, .bool r5]] w12 [.agg [.slice, .bool]] fun (r6 : Sl) (r7 : Bool) w13 =>
cl Pg F.zigguratref17_Sub [.agg #[r2.v, .bool r3], .agg #[b0.v, .bool b1]] w13 [.agg [.slice, .bool]] fun (r8 : Sl) (r9 : Bool) w14 =>
nwv w14 fun w15 =>
nwv w15 fun w16 =>
R (.tuple #[.agg #[r6.v, .bool r7], .agg #[r8.v, .bool r9]]) w16) (
cl Pg F.zigguratref17_Small [.int .i64 1] w9.drew [.agg [.slice, .bool]] fun (r10 : Sl) (r11 : Bool) w17 =>
cl Pg F.zigguratref17_Sub [.agg #[r.v, .bool r1], .agg #[r10.v, .bool r11]] w17 [.agg [.slice, .bool]] fun (r12 : Sl) (r13 : Bool) w18 =>
cl Pg F.zigguratref17_Add [.agg #[r2.v, .bool r3], .agg #[b0.v, .bool b1]] w18 [.agg [.slice, .bool]] fun (r14 : Sl) (r15 : Bool) w19 =>
nwv w19 fun w20 =>
nwv w20 fun w21 =>
R (.tuple #[.agg #[r12.v, .bool r13], .agg #[r14.v, .bool r15]]) w21))
def Dc.zigguratref17_Euclid : Dc := { N := 33, va := [(2, 33), (3, 35), (4, 37), (5, 39), (6, 41), (7, 43)], vb := [(33, 2), (35, 2), (37, 2), (39, 2), (41, 2), (43, 2)], ann := [], ext := Xt }
theorem Eq.zigguratref17_Euclid (a0 : Sl) (a1 : Bool) (b0 : Sl) (b1 : Bool) (R : Value → TW → Prop) (w : TW) : denF Pg Dc.zigguratref17_Euclid Go.Proofs.Try.f68 (Go.Proofs.Try.f68.body.getD .skip) [.agg #[a0.v, .bool a1], .agg #[b0.v, .bool b1]] w R = Sh.zigguratref17_Euclid a0 a1 b0 b1 R w := by kernel_rfl
theorem Ct.zigguratref17_Euclid {a0 : Sl} {a1 : Bool} {b0 : Sl} {b1 : Bool} {w : TW} {X : Nat → Prop} {K : Tel (fl [.agg [.slice, .bool], .agg [.slice, .bool]]) (TW → Prop)} (h : Sh.zigguratref17_Euclid a0 a1 b0 b1 (Rt X [.agg [.slice, .bool], .agg [.slice, .bool]] K w) w.here) : Ct Pg F.zigguratref17_Euclid [.agg #[a0.v, .bool a1], .agg #[b0.v, .bool b1]] w X [.agg [.slice, .bool], .agg [.slice, .bool]] K :=
  ct_of_den (D := Dc.zigguratref17_Euclid) (fn := Go.Proofs.Try.f68) Xt_ok follows_ok (by kernel_rfl) (by kernel_rfl) (by kernel_rfl) (Eq.mpr (Eq.zigguratref17_Euclid a0 a1 b0 b1 _ _) h)

def Sh.zigguratref17_Trunc (a0 : Sl) (a1 : Bool) (b0 : Sl) (b1 : Bool) (R : Value → TW → Prop) (w : TW) : Prop :=
nwv w fun w1 =>
nwv w1 fun w2 =>
nwv w2 fun w3 =>
nwv w3 fun w4 =>
cl Pg F.zigguratref02_DivMod [a0.v, b0.v] w4 [.one .slice, .one .slice] fun (s : Sl) (s1 : Sl) w5 =>
cl Pg F.zigguratref17_made [s.v, .bool (!(a1 == b1))] w5.drew [.agg [.slice, .bool]] fun (r : Sl) (r1 : Bool) w6 =>
cl Pg F.zigguratref17_made [s1.v, .bool a1] w6 [.agg [.slice, .bool]] fun (r2 : Sl) (r3 : Bool) w7 =>
nwv w7 fun w8 =>
nwv w8 fun w9 =>
R (.tuple #[.agg #[r.v, .bool r1], .agg #[r2.v, .bool r3]]) w9
def Dc.zigguratref17_Trunc : Dc := { N := 27, va := [(2, 27), (3, 29), (4, 31), (5, 33)], vb := [(27, 2), (29, 2), (31, 2), (33, 2)], ann := [], ext := Xt }
theorem Eq.zigguratref17_Trunc (a0 : Sl) (a1 : Bool) (b0 : Sl) (b1 : Bool) (R : Value → TW → Prop) (w : TW) : denF Pg Dc.zigguratref17_Trunc Go.Proofs.Try.f69 (Go.Proofs.Try.f69.body.getD .skip) [.agg #[a0.v, .bool a1], .agg #[b0.v, .bool b1]] w R = Sh.zigguratref17_Trunc a0 a1 b0 b1 R w := by kernel_rfl
theorem Ct.zigguratref17_Trunc {a0 : Sl} {a1 : Bool} {b0 : Sl} {b1 : Bool} {w : TW} {X : Nat → Prop} {K : Tel (fl [.agg [.slice, .bool], .agg [.slice, .bool]]) (TW → Prop)} (h : Sh.zigguratref17_Trunc a0 a1 b0 b1 (Rt X [.agg [.slice, .bool], .agg [.slice, .bool]] K w) w.here) : Ct Pg F.zigguratref17_Trunc [.agg #[a0.v, .bool a1], .agg #[b0.v, .bool b1]] w X [.agg [.slice, .bool], .agg [.slice, .bool]] K :=
  ct_of_den (D := Dc.zigguratref17_Trunc) (fn := Go.Proofs.Try.f69) Xt_ok follows_ok (by kernel_rfl) (by kernel_rfl) (by kernel_rfl) (Eq.mpr (Eq.zigguratref17_Trunc a0 a1 b0 b1 _ _) h)

def Sh.zigguratref17_Neg (a0 : Sl) (a1 : Bool) (R : Value → TW → Prop) (w : TW) : Prop :=
nwv w fun w1 =>
nwv w1 fun w2 =>
cl Pg F.zigguratref17_made [a0.v, .bool (!a1)] w2 [.agg [.slice, .bool]] fun (r : Sl) (r1 : Bool) w3 =>
nwv w3 fun w4 =>
R (.agg #[r.v, .bool r1]) w4
def Dc.zigguratref17_Neg : Dc := { N := 9, va := [(1, 9), (2, 11)], vb := [(9, 2), (11, 2)], ann := [], ext := Xt }
theorem Eq.zigguratref17_Neg (a0 : Sl) (a1 : Bool) (R : Value → TW → Prop) (w : TW) : denF Pg Dc.zigguratref17_Neg Go.Proofs.Try.f70 (Go.Proofs.Try.f70.body.getD .skip) [.agg #[a0.v, .bool a1]] w R = Sh.zigguratref17_Neg a0 a1 R w := by kernel_rfl
theorem Ct.zigguratref17_Neg {a0 : Sl} {a1 : Bool} {w : TW} {X : Nat → Prop} {K : Tel (fl [.agg [.slice, .bool]]) (TW → Prop)} (h : Sh.zigguratref17_Neg a0 a1 (Rt X [.agg [.slice, .bool]] K w) w.here) : Ct Pg F.zigguratref17_Neg [.agg #[a0.v, .bool a1]] w X [.agg [.slice, .bool]] K :=
  ct_of_den (D := Dc.zigguratref17_Neg) (fn := Go.Proofs.Try.f70) Xt_ok follows_ok (by kernel_rfl) (by kernel_rfl) (by kernel_rfl) (Eq.mpr (Eq.zigguratref17_Neg a0 a1 _ _) h)
end Go.Proofs.Ytgcnflfempaliaa.Zg
end

section
set_option maxRecDepth 100000
namespace Go.Proofs.Ytgcnflfempaliaa.Zg
def Sh.zigguratref28_Same (a : Sl) (b : Sl) (R : Value → TW → Prop) (w : TW) : Prop :=
cl Pg F.zigguratref28_To [a.v] w [.one .slice] fun (s : Sl) w1 =>
cond (((s.n : Int) : Int) != (b.n : Int)) (
R (.bool false) w1) (
Jn [] (fun J0 =>
Lp [.int .i64] (fun (i : Int) w2 C0 =>
cond (decide ((i : Int) < (s.n : Int))) (
Jn [.bool] (fun J1 =>
ixa s i 2 fun a1 =>
ldc (.bool) w2.drew (a1.add 1) fun (v : Bool) =>
ixa b i 2 fun a2 =>
ldc (.bool) w2.drew (a2.add 1) fun (v1 : Bool) =>
cond (!(v == v1)) (
J1 true w2.drew) (
ixa a i 2 fun a3 =>
ldc (.slice) w2.drew a3 fun (v2 : Sl) =>
ixa b i 2 fun a4 =>
ldc (.slice) w2.drew a4 fun (v3 : Sl) =>
cl Pg F.zigguratref02_Same [v2.v, v3.v] w2.drew [.one .bool] fun (ok : Bool) w3 =>
hld w3 [((a2.add 1), .bool v1), ((a1.add 1), .bool v)] <|
J1 (!ok) w3)) fun (x : Bool) w4 =>
cond x (
R (.bool false) w4) (
bnd (wi (i + 1)) fun n =>
C0 n w4)) (
J0 w2)) 0 w1) fun  w5 =>
R (.bool true) w5)
def Dc.zigguratref28_Same : Dc := { N := 45, va := [], vb := [], ann := [(2, 0, []), (3, 5, [(6, .one (.int .i64))]), (0, 7, [(44, .one .bool)])], ext := Xt }
theorem Eq.zigguratref28_Same (a : Sl) (b : Sl) (R : Value → TW → Prop) (w : TW) : denF Pg Dc.zigguratref28_Same Go.Proofs.Try.f11 (Go.Proofs.Try.f11.body.getD .skip) [a.v, b.v] w R = Sh.zigguratref28_Same a b R w := by kernel_rfl
theorem Ct.zigguratref28_Same {a : Sl} {b : Sl} {w : TW} {X : Nat → Prop} {K : Tel (fl [.one .bool]) (TW → Prop)} (h : Sh.zigguratref28_Same a b (Rt X [.one .bool] K w) w.here) : Ct Pg F.zigguratref28_Same [a.v, b.v] w X [.one .bool] K :=
  ct_of_den (D := Dc.zigguratref28_Same) (fn := Go.Proofs.Try.f11) Xt_ok follows_ok (by kernel_rfl) (by kernel_rfl) (by kernel_rfl) (Eq.mpr (Eq.zigguratref28_Same a b _ _) h)

def Sh.zigguratref28_Unpack (a0 : Sl) (a1 : Bool) (k : Int) (R : Value → TW → Prop) (w : TW) : Prop :=
nwv w fun w1 =>
cl Pg F.zigguratref02_Small [.int .u64 1] w1 [.one .slice] fun (s : Sl) w2 =>
cl Pg F.zigguratref02_Shl [s.v, .int .i64 k] w2 [.one .slice] fun (s1 : Sl) w3 =>
Jn [.slice] (fun J0 =>
Lp [.slice, .slice, .bool] (fun (out : Sl) (a2 : Sl) (a3 : Bool) w4 C0 =>
cl Pg F.zigguratref17_Zero [.agg #[a2.v, .bool a3]] w4 [.one .bool] fun (ok : Bool) w5 =>
cond (!ok) (
cl Pg F.zigguratref17_Residue [.agg #[a2.v, .bool a3], s1.v] w5 [.one .slice] fun (s2 : Sl) w6 =>
cl Pg F.zigguratref17_Signed [s2.v, s1.v] w6 [.agg [.slice, .bool]] fun (r : Sl) (r1 : Bool) w7 =>
nwv w7 fun w8 =>
nwv w8 fun w9 =>
nwb w9 [r.v, .bool r1] T.zigguratref17_I fun b w10 =>
apd w10 T.zigguratref17_I 2 32 out ⟨(some ⟨b, 0, none⟩), 1, 1⟩ fun s3 w11 =>
cl Pg F.zigguratref17_Sub [.agg #[a2.v, .bool a3], .agg #[r.v, .bool r1]] w11 [.agg [.slice, .bool]] fun (r2 : Sl) (r3 : Bool) w12 =>
cl Pg F.zigguratref17_Nat [s1.v] w12 [.agg [.slice, .bool]] fun (r4 : Sl) (r5 : Bool) w13 =>
cl Pg F.zigguratref17_Floor [.agg #[r2.v, .bool r3], .agg #[r4.v, .bool r5]] w13 [.agg [.slice, .bool], .agg [.slice, .bool]] fun (r6 : Sl) (r7 : Bool) (_ : Sl) (_ : Bool) w14 =>
nwv w14 fun w15 =>
C0 s3 r6 r7 w15) (
J0 out w5)) Sl.nil a0 a1 w3) fun (out1 : Sl) w16 =>
cl Pg F.zigguratref28_norm [out1.v] w16 [.one .slice] fun (s4 : Sl) w17 =>
R (s4.v) w17
def Dc.zigguratref28_Unpack : Dc := { N := 34, va := [(2, 34), (7, 36)], vb := [(34, 2), (36, 2)], ann := [(2, 0, [(5, .one .slice)]), (3, 3, [(5, .one .slice), (34, .one .slice), (35, .one .bool)])], ext := Xt }
theorem Eq.zigguratref28_Unpack (a0 : Sl) (a1 : Bool) (k : Int) (R : Value → TW → Prop) (w : TW) : denF Pg Dc.zigguratref28_Unpack Go.Proofs.Try.f12 (Go.Proofs.Try.f12.body.getD .skip) [.agg #[a0.v, .bool a1], .int .i64 k] w R = Sh.zigguratref28_Unpack a0 a1 k R w := by kernel_rfl
theorem Ct.zigguratref28_Unpack {a0 : Sl} {a1 : Bool} {k : Int} {w : TW} {X : Nat → Prop} {K : Tel (fl [.one .slice]) (TW → Prop)} (h : Sh.zigguratref28_Unpack a0 a1 k (Rt X [.one .slice] K w) w.here) : Ct Pg F.zigguratref28_Unpack [.agg #[a0.v, .bool a1], .int .i64 k] w X [.one .slice] K :=
  ct_of_den (D := Dc.zigguratref28_Unpack) (fn := Go.Proofs.Try.f12) Xt_ok follows_ok (by kernel_rfl) (by kernel_rfl) (by kernel_rfl) (Eq.mpr (Eq.zigguratref28_Unpack a0 a1 k _ _) h)

def Sh.zigguratref28_Height (a : Sl) (R : Value → TW → Prop) (w : TW) : Prop :=
Jn [.int .i64] (fun J0 =>
Lp [.int .i64, .int .i64] (fun (n : Int) (i : Int) w1 C0 =>
cond (decide ((i : Int) < (a.n : Int))) (
ixa a i 2 fun a1 =>
ldc (.slice) w1 a1 fun (v : Sl) =>
cl Pg F.zigguratref02_Bits [v.v] w1 [.one (.int .i64)] fun (r : Int) w2 =>
bnd (if (r : Int) > n then r else n) fun n1 =>
bnd (wi (i + 1)) fun n2 =>
C0 n1 n2 w2) (
J0 n w1)) 0 0 w) fun (n3 : Int) w3 =>
R (.int .i64 n3) w3
def Dc.zigguratref28_Height : Dc := { N := 20, va := [], vb := [], ann := [(2, 0, [(3, .one (.int .i64))]), (3, 3, [(3, .one (.int .i64)), (4, .one (.int .i64))])], ext := Xt }
theorem Eq.zigguratref28_Height (a : Sl) (R : Value → TW → Prop) (w : TW) : denF Pg Dc.zigguratref28_Height Go.Proofs.Try.f16 (Go.Proofs.Try.f16.body.getD .skip) [a.v] w R = Sh.zigguratref28_Height a R w := by kernel_rfl
theorem Ct.zigguratref28_Height {a : Sl} {w : TW} {X : Nat → Prop} {K : Tel (fl [.one (.int .i64)]) (TW → Prop)} (h : Sh.zigguratref28_Height a (Rt X [.one (.int .i64)] K w) w.here) : Ct Pg F.zigguratref28_Height [a.v] w X [.one (.int .i64)] K :=
  ct_of_den (D := Dc.zigguratref28_Height) (fn := Go.Proofs.Try.f16) Xt_ok follows_ok (by kernel_rfl) (by kernel_rfl) (by kernel_rfl) (Eq.mpr (Eq.zigguratref28_Height a _ _) h)

def Sh.zigguratref28_Pack (a : Sl) (k : Int) (R : Value → TW → Prop) (w : TW) : Prop :=
nwv w fun w1 =>
nwv w1 fun w2 =>
bnd (wi ((a.n : Int) - 1)) fun n =>
Jn [.slice, .bool, .slice, .bool] (fun J0 =>
Lp [.int .i64, .slice, .bool, .slice, .bool] (fun (i : Int) (x : Sl) (x1 : Bool) (out : Sl) (out1 : Bool) w3 C0 =>
cond (decide ((i : Int) ≥ 0)) (
ixa a i 2 fun a1 =>
ldc (.slice) w3.drew (a1.add 0) fun (v : Sl) =>
ldc (.bool) w3.drew (a1.add 1) fun (v1 : Bool) =>
cl Pg F.zigguratref02_Small [.int .u64 1] w3.drew [.one .slice] fun (s : Sl) w4 =>
hld w4 [(a1.add 0, v.v), (a1.add 1, .bool v1)] <|
cl Pg F.zigguratref02_Shl [s.v, .int .i64 k] w4 [.one .slice] fun (s1 : Sl) w5 =>
hld w5 [(a1.add 0, v.v), (a1.add 1, .bool v1)] <|
cl Pg F.zigguratref17_Nat [s1.v] w5 [.agg [.slice, .bool]] fun (r : Sl) (r1 : Bool) w6 =>
hld w6 [(a1.add 0, v.v), (a1.add 1, .bool v1)] <|
cl Pg F.zigguratref17_Mul [.agg #[out.v, .bool out1], .agg #[r.v, .bool r1]] w6 [.agg [.slice, .bool]] fun (r2 : Sl) (r3 : Bool) w7 =>
hld w7 [(a1.add 0, v.v), (a1.add 1, .bool v1)] <|
cl Pg F.zigguratref17_Add [.agg #[r2.v, .bool r3], .agg #[v.v, .bool v1]] w7 [.agg [.slice, .bool]] fun (r4 : Sl) (r5 : Bool) w8 =>
nwv w8 fun w9 =>
bnd (wi (i - 1)) fun n1 =>
C0 n1 x x1 r4 r5 w9) (
J0 x x1 out out1 w3)) n Sl.nil false Sl.nil false w2) fun (_ : Sl) (_ : Bool) (out2 : Sl) (out3 : Bool) w10 =>
nwv w10 fun w11 =>
R (.agg #[out2.v, .bool out3]) w11
def Dc.zigguratref28_Pack : Dc := { N := 26, va := [(4, 26), (5, 28)], vb := [(26, 2), (28, 2)], ann := [(2, 0, [(26, .one .slice), (27, .one .bool), (28, .one .slice), (29, .one .bool)]), (3, 3, [(6, .one (.int .i64)), (26, .one .slice), (27, .one .bool), (28, .one .slice), (29, .one .bool)])], ext := Xt }
theorem Eq.zigguratref28_Pack (a : Sl) (k : Int) (R : Value → TW → Prop) (w : TW) : denF Pg Dc.zigguratref28_Pack Go.Proofs.Try.f19 (Go.Proofs.Try.f19.body.getD .skip) [a.v, .int .i64 k] w R = Sh.zigguratref28_Pack a k R w := by kernel_rfl
theorem Ct.zigguratref28_Pack {a : Sl} {k : Int} {w : TW} {X : Nat → Prop} {K : Tel (fl [.agg [.slice, .bool]]) (TW → Prop)} (h : Sh.zigguratref28_Pack a k (Rt X [.agg [.slice, .bool]] K w) w.here) : Ct Pg F.zigguratref28_Pack [a.v, .int .i64 k] w X [.agg [.slice, .bool]] K :=
  ct_of_den (D := Dc.zigguratref28_Pack) (fn := Go.Proofs.Try.f19) Xt_ok follows_ok (by kernel_rfl) (by kernel_rfl) (by kernel_rfl) (Eq.mpr (Eq.zigguratref28_Pack a k _ _) h)

def Sh.zigguratref28_To (a : Sl) (R : Value → TW → Prop) (w : TW) : Prop :=
Jn [.slice] (fun J0 =>
Lp [.slice, .int .i64] (fun (out : Sl) (i : Int) w1 C0 =>
cond (decide ((i : Int) < (a.n : Int))) (
ixa a i 2 fun a1 =>
ldc (.slice) w1 (a1.add 0) fun (v : Sl) =>
ldc (.bool) w1 (a1.add 1) fun (v1 : Bool) =>
cl Pg F.zigguratref17_To [.agg #[v.v, .bool v1]] w1 [.agg [.slice, .bool]] fun (r : Sl) (r1 : Bool) w2 =>
nwb w2 [r.v, .bool r1] T.api_Int fun b w3 =>
apd w3 T.api_Int 2 32 out ⟨(some ⟨b, 0, none⟩), 1, 1⟩ fun s w4 =>
bnd (wi (i + 1)) fun n =>
C0 s n w4) (
J0 out w1)) Sl.nil 0 w) fun (out1 : Sl) w5 =>
R (out1.v) w5
def Dc.zigguratref28_To : Dc := { N := 20, va := [], vb := [], ann := [(2, 0, [(3, .one .slice)]), (3, 3, [(3, .one .slice), (4, .one (.int .i64))])], ext := Xt }
theorem Eq.zigguratref28_To (a : Sl) (R : Value → TW → Prop) (w : TW) : denF Pg Dc.zigguratref28_To Go.Proofs.Try.f27 (Go.Proofs.Try.f27.body.getD .skip) [a.v] w R = Sh.zigguratref28_To a R w := by kernel_rfl
theorem Ct.zigguratref28_To {a : Sl} {w : TW} {X : Nat → Prop} {K : Tel (fl [.one .slice]) (TW → Prop)} (h : Sh.zigguratref28_To a (Rt X [.one .slice] K w) w.here) : Ct Pg F.zigguratref28_To [a.v] w X [.one .slice] K :=
  ct_of_den (D := Dc.zigguratref28_To) (fn := Go.Proofs.Try.f27) Xt_ok follows_ok (by kernel_rfl) (by kernel_rfl) (by kernel_rfl) (Eq.mpr (Eq.zigguratref28_To a _ _) h)

def Sh.zigguratref28_norm (a : Sl) (R : Value → TW → Prop) (w : TW) : Prop :=
Jn [.int .i64] (fun J0 =>
Lp [.int .i64] (fun (k : Int) w1 C0 =>
Jn [.bool] (fun J1 =>
cond (decide ((k : Int) > 0)) (
bnd (wi (k - 1)) fun n =>
ixa a n 2 fun a1 =>
ldc (.slice) w1 (a1.add 0) fun (v : Sl) =>
ldc (.bool) w1 (a1.add 1) fun (v1 : Bool) =>
cl Pg F.zigguratref17_Zero [.agg #[v.v, .bool v1]] w1 [.one .bool] fun (ok : Bool) w2 =>
J1 ok w2) (
J1 false w1)) fun (x : Bool) w3 =>
cond x (
bnd (wi (k - 1)) fun n1 =>
C0 n1 w3) (
J0 k w3)) (a.n : Int) w) fun (k1 : Int) w4 =>
slc a 0 k1 2 fun s =>
R (s.v) w4
def Dc.zigguratref28_norm : Dc := { N := 21, va := [], vb := [], ann := [(2, 0, [(3, .one (.int .i64))]), (3, 2, [(3, .one (.int .i64))]), (0, 2, [(15, .one .bool)])], ext := Xt }
theorem Eq.zigguratref28_norm (a : Sl) (R : Value → TW → Prop) (w : TW) : denF Pg Dc.zigguratref28_norm Go.Proofs.Try.f37 (Go.Proofs.Try.f37.body.getD .skip) [a.v] w R = Sh.zigguratref28_norm a R w := by kernel_rfl
theorem Ct.zigguratref28_norm {a : Sl} {w : TW} {X : Nat → Prop} {K : Tel (fl [.one .slice]) (TW → Prop)} (h : Sh.zigguratref28_norm a (Rt X [.one .slice] K w) w.here) : Ct Pg F.zigguratref28_norm [a.v] w X [.one .slice] K :=
  ct_of_den (D := Dc.zigguratref28_norm) (fn := Go.Proofs.Try.f37) Xt_ok follows_ok (by kernel_rfl) (by kernel_rfl) (by kernel_rfl) (Eq.mpr (Eq.zigguratref28_norm a _ _) h)

def Sh.zigguratref28_From (a : Sl) (R : Value → TW → Prop) (w : TW) : Prop :=
Jn [.slice] (fun J0 =>
Lp [.slice, .int .i64] (fun (out : Sl) (i : Int) w1 C0 =>
cond (decide ((i : Int) < (a.n : Int))) (
ixa a i 2 fun a1 =>
ldc (.slice) w1 (a1.add 0) fun (v : Sl) =>
ldc (.bool) w1 (a1.add 1) fun (v1 : Bool) =>
cl Pg F.zigguratref17_From [.agg #[v.v, .bool v1]] w1 [.agg [.slice, .bool]] fun (r : Sl) (r1 : Bool) w2 =>
nwb w2 [r.v, .bool r1] T.zigguratref17_I fun b w3 =>
apd w3 T.zigguratref17_I 2 32 out ⟨(some ⟨b, 0, none⟩), 1, 1⟩ fun s w4 =>
bnd (wi (i + 1)) fun n =>
C0 s n w4) (
J0 out w1)) Sl.nil 0 w) fun (out1 : Sl) w5 =>
cl Pg F.zigguratref28_norm [out1.v] w5 [.one .slice] fun (s1 : Sl) w6 =>
R (s1.v) w6
def Dc.zigguratref28_From : Dc := { N := 21, va := [], vb := [], ann := [(2, 0, [(3, .one .slice)]), (3, 3, [(3, .one .slice), (4, .one (.int .i64))])], ext := Xt }
theorem Eq.zigguratref28_From (a : Sl) (R : Value → TW → Prop) (w : TW) : denF Pg Dc.zigguratref28_From Go.Proofs.Try.f41 (Go.Proofs.Try.f41.body.getD .skip) [a.v] w R = Sh.zigguratref28_From a R w := by kernel_rfl
theorem Ct.zigguratref28_From {a : Sl} {w : TW} {X : Nat → Prop} {K : Tel (fl [.one .slice]) (TW → Prop)} (h : Sh.zigguratref28_From a (Rt X [.one .slice] K w) w.here) : Ct Pg F.zigguratref28_From [a.v] w X [.one .slice] K :=
  ct_of_den (D := Dc.zigguratref28_From) (fn := Go.Proofs.Try.f41) Xt_ok follows_ok (by kernel_rfl) (by kernel_rfl) (by kernel_rfl) (Eq.mpr (Eq.zigguratref28_From a _ _) h)
end Go.Proofs.Ytgcnflfempaliaa.Zg
end

section
set_option maxRecDepth 100000
namespace Go.Proofs.Ytgcnflfempaliaa.Zg
def Sh.zmul_New (t : HL [.int .i64, .int .i64, .int .i64, .int .i64, .int .i64, .int .i64, .int .i64, .int .i64, .int .i64, .int .i64, .int .i64]) (R : Value → TW → Prop) (w : TW) : Prop :=
nwv w fun w1 =>
cl Pg F.polyz_New [.agg #[.int .i64 t.1, .int .i64 t.2.1, .int .i64 t.2.2.1, .int .i64 t.2.2.2.1, .int .i64 t.2.2.2.2.1, .int .i64 t.2.2.2.2.2.1, .int .i64 t.2.2.2.2.2.2.1, .int .i64 t.2.2.2.2.2.2.2.1, .int .i64 t.2.2.2.2.2.2.2.2.1, .int .i64 t.2.2.2.2.2.2.2.2.2.1, .int .i64 t.2.2.2.2.2.2.2.2.2.2.1]] w1 [.one .ptr] fun (p : Option Addr) w2 =>
nwb w2 [.pointer p] T.zmul_Engine fun b w3 =>
R (.pointer (some ⟨b, 0, none⟩)) w3
def Dc.zmul_New : Dc := { N := 7, va := [(1, 7)], vb := [(7, 11)], ann := [], ext := Xt }
theorem Eq.zmul_New (t : HL [.int .i64, .int .i64, .int .i64, .int .i64, .int .i64, .int .i64, .int .i64, .int .i64, .int .i64, .int .i64, .int .i64]) (R : Value → TW → Prop) (w : TW) : denF Pg Dc.zmul_New Go.Proofs.Try.f7 (Go.Proofs.Try.f7.body.getD .skip) [.agg (encs [.int .i64, .int .i64, .int .i64, .int .i64, .int .i64, .int .i64, .int .i64, .int .i64, .int .i64, .int .i64, .int .i64] t).toArray] w R = Sh.zmul_New t R w := by kernel_rfl
theorem Ct.zmul_New {t : HL [.int .i64, .int .i64, .int .i64, .int .i64, .int .i64, .int .i64, .int .i64, .int .i64, .int .i64, .int .i64, .int .i64]} {w : TW} {X : Nat → Prop} {K : Tel (fl [.one .ptr]) (TW → Prop)} (h : Sh.zmul_New t (Rt X [.one .ptr] K w) w.here) : Ct Pg F.zmul_New [.agg (encs [.int .i64, .int .i64, .int .i64, .int .i64, .int .i64, .int .i64, .int .i64, .int .i64, .int .i64, .int .i64, .int .i64] t).toArray] w X [.one .ptr] K :=
  ct_of_den (D := Dc.zmul_New) (fn := Go.Proofs.Try.f7) Xt_ok follows_ok (by kernel_rfl) (by kernel_rfl) (by kernel_rfl) (Eq.mpr (Eq.zmul_New t _ _) h)

def Sh.zmul_Engine_Unpack (e0 : Option Addr) (a0 : Sl) (a1 : Bool) (k : Int) (R : Value → TW → Prop) (w : TW) : Prop :=
nwv w fun w1 =>
Jn [.bool, .slice, .bool] (fun J0 =>
cond (decide ((k : Int) < 2)) (
J0 true a0 a1 w1) (
J0 (decide ((k : Int) > 1048576)) a0 a1 w1)) fun (x : Bool) (a2 : Sl) (a3 : Bool) w2 =>
cond x (
R (.tuple #[.slice none 0 0, .int .i64 1]) w2) (
cl Pg F.num_Norm [.agg #[a2.v, .bool a3]] w2 [.agg [.slice, .bool]] fun (r : Sl) (r1 : Bool) w3 =>
cl Pg F.zmul_unpacked [.agg #[r.v, .bool r1], .int .i64 k] w3 [.one .slice] fun (s : Sl) w4 =>
R (.tuple #[s.v, .int .i64 0]) w4)
def Dc.zmul_Engine_Unpack : Dc := { N := 18, va := [(4, 18)], vb := [(18, 2)], ann := [(0, 1, [(13, .one .bool), (18, .one .slice), (19, .one .bool)])], ext := Xt }
theorem Eq.zmul_Engine_Unpack (e0 : Option Addr) (a0 : Sl) (a1 : Bool) (k : Int) (R : Value → TW → Prop) (w : TW) : denF Pg Dc.zmul_Engine_Unpack Go.Proofs.Try.f9 (Go.Proofs.Try.f9.body.getD .skip) [.pointer e0, .agg #[a0.v, .bool a1], .int .i64 k] w R = Sh.zmul_Engine_Unpack e0 a0 a1 k R w := by kernel_rfl
theorem Ct.zmul_Engine_Unpack {e0 : Option Addr} {a0 : Sl} {a1 : Bool} {k : Int} {w : TW} {X : Nat → Prop} {K : Tel (fl [.one .slice, .one (.int .i64)]) (TW → Prop)} (h : Sh.zmul_Engine_Unpack e0 a0 a1 k (Rt X [.one .slice, .one (.int .i64)] K w) w.here) : Ct Pg F.zmul_Engine_Unpack [.pointer e0, .agg #[a0.v, .bool a1], .int .i64 k] w X [.one .slice, .one (.int .i64)] K :=
  ct_of_den (D := Dc.zmul_Engine_Unpack) (fn := Go.Proofs.Try.f9) Xt_ok follows_ok (by kernel_rfl) (by kernel_rfl) (by kernel_rfl) (Eq.mpr (Eq.zmul_Engine_Unpack e0 a0 a1 k _ _) h)

def Sh.zmul_Engine_Pack (e0 : Option Addr) (a : Sl) (k : Int) (R : Value → TW → Prop) (w : TW) : Prop :=
nwv w fun w1 =>
cl Pg F.polyz_Norm [a.v] w1 [.one .slice] fun (s : Sl) w2 =>
Jn [.bool, .slice, .bool] (fun J0 =>
cond (decide ((k : Int) < 1)) (
J0 true Sl.nil false w2) (
cond (decide ((k : Int) > 1048576)) (
J0 true Sl.nil false w2) (
cl Pg F.polyz_Height [s.v] w2 [.one (.int .i64)] fun (r : Int) w3 =>
J0 (decide ((r : Int) ≥ k)) Sl.nil false w3))) fun (x : Bool) (_ : Sl) (_ : Bool) w4 =>
cond x (
nwv w4 fun w5 =>
R (.tuple #[.agg #[.slice none 0 0, .bool false], .int .i64 1]) w5) (
cl Pg F.zmul_half [s.v, .int .i64 k] w4 [.agg [.slice, .bool]] fun (r1 : Sl) (r2 : Bool) w6 =>
nwv w6 fun w7 =>
R (.tuple #[.agg #[r1.v, .bool r2], .int .i64 0]) w7)
def Dc.zmul_Engine_Pack : Dc := { N := 26, va := [(6, 26)], vb := [(26, 2)], ann := [(0, 2, [(21, .one .bool), (26, .one .slice), (27, .one .bool)])], ext := Xt }
theorem Eq.zmul_Engine_Pack (e0 : Option Addr) (a : Sl) (k : Int) (R : Value → TW → Prop) (w : TW) : denF Pg Dc.zmul_Engine_Pack Go.Proofs.Try.f15 (Go.Proofs.Try.f15.body.getD .skip) [.pointer e0, a.v, .int .i64 k] w R = Sh.zmul_Engine_Pack e0 a k R w := by kernel_rfl
theorem Ct.zmul_Engine_Pack {e0 : Option Addr} {a : Sl} {k : Int} {w : TW} {X : Nat → Prop} {K : Tel (fl [.agg [.slice, .bool], .one (.int .i64)]) (TW → Prop)} (h : Sh.zmul_Engine_Pack e0 a k (Rt X [.agg [.slice, .bool], .one (.int .i64)] K w) w.here) : Ct Pg F.zmul_Engine_Pack [.pointer e0, a.v, .int .i64 k] w X [.agg [.slice, .bool], .one (.int .i64)] K :=
  ct_of_den (D := Dc.zmul_Engine_Pack) (fn := Go.Proofs.Try.f15) Xt_ok follows_ok (by kernel_rfl) (by kernel_rfl) (by kernel_rfl) (Eq.mpr (Eq.zmul_Engine_Pack e0 a k _ _) h)

def Sh.zmul_unpacked (a0 : Sl) (a1 : Bool) (k : Int) (R : Value → TW → Prop) (w : TW) : Prop :=
nwv w fun w1 =>
cl Pg F.limb_One [.int .u64 1] w1 [.one .slice] fun (s : Sl) w2 =>
cl Pg F.limb_Shl [s.v, .int .i64 k] w2 [.one .slice] fun (s1 : Sl) w3 =>
cl Pg F.limb_One [.int .u64 1] w3 [.one .slice] fun (s2 : Sl) w4 =>
bnd (wi (k - 1)) fun n =>
cl Pg F.limb_Shl [s2.v, .int .i64 n] w4 [.one .slice] fun (s3 : Sl) w5 =>
cl Pg F.api_Nat_Bits [a0.v] w5 [.one (.int .i64)] fun (r : Int) w6 =>
bnd (wi (r + k)) fun n1 =>
bnd (wi (n1 - 1)) fun n2 =>
divK .i64 n2 k fun n3 =>
Jn [.slice] (fun J0 =>
Lp [.slice, .slice, .int .i64, .slice, .bool] (fun (out : Sl) (carry : Sl) (i : Int) (a2 : Sl) (a3 : Bool) w7 C0 =>
Jn [.bool, .slice, .bool] (fun J1 =>
cond (decide ((i : Int) < n3)) (
J1 true a2 a3 w7) (
cl Pg F.api_Nat_Zero [carry.v] w7 [.one .bool] fun (ok : Bool) w8 =>
J1 (!ok) a2 a3 w8)) fun (x : Bool) (a4 : Sl) (a5 : Bool) w9 =>
cond x (
bnd (wi (i * k)) fun n4 =>
cl Pg F.zmul_digits [a4.v, .int .i64 n4, .int .i64 k] w9 [.one .slice] fun (s4 : Sl) w10 =>
cl Pg F.limb_Add [s4.v, carry.v] w10 [.one .slice] fun (s5 : Sl) w11 =>
nwv w11 fun w12 =>
nwv w12 fun w13 =>
cl Pg F.limb_Cmp [s5.v, s3.v] w13 [.one (.int .i64)] fun (r1 : Int) w14 =>
Jn [.bool, .slice, .bool, .slice, .bool] (fun J2 =>
cond (decide ((r1 : Int) > 0)) (
J2 true a4 a5 s5 a5 w14) (
cond ((r1 : Int) == 0) (
J2 a5 a4 a5 s5 a5 w14) (
J2 false a4 a5 s5 a5 w14))) fun (x1 : Bool) (a6 : Sl) (a7 : Bool) (x2 : Sl) (x3 : Bool) w15 =>
Jn [.slice, .slice, .bool, .slice, .bool] (fun J3 =>
cond x1 (
cl Pg F.limb_Sub [s1.v, s5.v] w15 [.one .slice, .one .bool] fun (s6 : Sl) (_ : Bool) w16 =>
nwv w16 fun w17 =>
cl Pg F.limb_One [.int .u64 1] w17 [.one .slice] fun (s7 : Sl) w18 =>
J3 s7 a6 a7 s6 (!a7) w18) (
J3 Sl.nil a6 a7 x2 x3 w15)) fun (carry1 : Sl) (a8 : Sl) (a9 : Bool) (x4 : Sl) (x5 : Bool) w19 =>
cl Pg F.num_Norm [.agg #[x4.v, .bool x5]] w19 [.agg [.slice, .bool]] fun (r2 : Sl) (r3 : Bool) w20 =>
nwb w20 [r2.v, .bool r3] T.api_Int fun b w21 =>
apd w21 T.api_Int 2 32 out ⟨(some ⟨b, 0, none⟩), 1, 1⟩ fun s8 w22 =>
bnd (wi (i + 1)) fun n5 =>
C0 s8 carry1 n5 a8 a9 w22) (
J0 out w9)) Sl.nil Sl.nil 0 a0 a1 w6) fun (out1 : Sl) w23 =>
cl Pg F.polyz_Norm [out1.v] w23 [.one .slice] fun (s9 : Sl) w24 =>
R (s9.v) w24
def Dc.zmul_unpacked : Dc := { N := 86, va := [(2, 86), (12, 88)], vb := [(86, 2), (88, 2)], ann := [(2, 0, [(5, .one .slice)]), (3, 6, [(5, .one .slice), (8, .one .slice), (10, .one (.int .i64)), (86, .one .slice), (87, .one .bool)]), (0, 6, [(38, .one .bool), (86, .one .slice), (87, .one .bool)]), (0, 12, [(66, .one .bool), (86, .one .slice), (87, .one .bool), (88, .one .slice), (89, .one .bool)]), (1, 13, [(8, .one .slice), (86, .one .slice), (87, .one .bool), (88, .one .slice), (89, .one .bool)])], ext := Xt }
theorem Eq.zmul_unpacked (a0 : Sl) (a1 : Bool) (k : Int) (R : Value → TW → Prop) (w : TW) : denF Pg Dc.zmul_unpacked Go.Proofs.Try.f23 (Go.Proofs.Try.f23.body.getD .skip) [.agg #[a0.v, .bool a1], .int .i64 k] w R = Sh.zmul_unpacked a0 a1 k R w := by kernel_rfl
theorem Ct.zmul_unpacked {a0 : Sl} {a1 : Bool} {k : Int} {w : TW} {X : Nat → Prop} {K : Tel (fl [.one .slice]) (TW → Prop)} (h : Sh.zmul_unpacked a0 a1 k (Rt X [.one .slice] K w) w.here) : Ct Pg F.zmul_unpacked [.agg #[a0.v, .bool a1], .int .i64 k] w X [.one .slice] K :=
  ct_of_den (D := Dc.zmul_unpacked) (fn := Go.Proofs.Try.f23) Xt_ok follows_ok (by kernel_rfl) (by kernel_rfl) (by kernel_rfl) (Eq.mpr (Eq.zmul_unpacked a0 a1 k _ _) h)

def Sh.zmul_half (a : Sl) (k : Int) (R : Value → TW → Prop) (w : TW) : Prop :=
nwv w fun w1 =>
cond (((a.n : Int) : Int) == 0) (
nwv w1 fun w2 =>
R (.agg #[.slice none 0 0, .bool false]) w2) (
cond (((a.n : Int) : Int) == 1) (
ixa a 0 2 fun a1 =>
ldc (.slice) w1 (a1.add 0) fun (v : Sl) =>
ldc (.bool) w1 (a1.add 1) fun (v1 : Bool) =>
cl Pg F.num_Norm [.agg #[v.v, .bool v1]] w1 [.agg [.slice, .bool]] fun (r : Sl) (r1 : Bool) w3 =>
nwv w3 fun w4 =>
R (.agg #[r.v, .bool r1]) w4) (
divK .i64 (a.n : Int) 2 fun n =>
slc a n (a.n : Nat) 2 fun s =>
cl Pg F.zmul_half [s.v, .int .i64 k] w1 [.agg [.slice, .bool]] fun (r2 : Sl) (r3 : Bool) w5 =>
nwv w5 fun w6 =>
nwv w6 fun w7 =>
slc a 0 n 2 fun s1 =>
bnd (wi (k * n)) fun n1 =>
cl Pg F.zmul_half [s1.v, .int .i64 k] w7.drew [.agg [.slice, .bool]] fun (r4 : Sl) (r5 : Bool) w8 =>
cl Pg F.zmul_shifted [.agg #[r2.v, .bool r3], .int .i64 n1] w8 [.agg [.slice, .bool]] fun (r6 : Sl) (r7 : Bool) w9 =>
cl Pg F.num_Add [.agg #[r4.v, .bool r5], .agg #[r6.v, .bool r7]] w9 [.agg [.slice, .bool]] fun (r8 : Sl) (r9 : Bool) w10 =>
nwv w10 fun w11 =>
R (.agg #[r8.v, .bool r9]) w11))
def Dc.zmul_half : Dc := { N := 37, va := [(4, 37), (6, 39)], vb := [(37, 2), (39, 2)], ann := [], ext := Xt }
theorem Eq.zmul_half (a : Sl) (k : Int) (R : Value → TW → Prop) (w : TW) : denF Pg Dc.zmul_half Go.Proofs.Try.f44 (Go.Proofs.Try.f44.body.getD .skip) [a.v, .int .i64 k] w R = Sh.zmul_half a k R w := by kernel_rfl
theorem Ct.zmul_half {a : Sl} {k : Int} {w : TW} {X : Nat → Prop} {K : Tel (fl [.agg [.slice, .bool]]) (TW → Prop)} (h : Sh.zmul_half a k (Rt X [.agg [.slice, .bool]] K w) w.here) : Ct Pg F.zmul_half [a.v, .int .i64 k] w X [.agg [.slice, .bool]] K :=
  ct_of_den (D := Dc.zmul_half) (fn := Go.Proofs.Try.f44) Xt_ok follows_ok (by kernel_rfl) (by kernel_rfl) (by kernel_rfl) (Eq.mpr (Eq.zmul_half a k _ _) h)

def Sh.zmul_digits (a : Sl) (from0 : Int) (n : Int) (R : Value → TW → Prop) (w : TW) : Prop :=
divK .i64 from0 64 fun n1 =>
cond (decide ((n1 : Int) ≥ (a.n : Int))) (
R (.slice none 0 0) w) (
divK .i64 n 64 fun n2 =>
bnd (wi (n1 + n2)) fun n3 =>
bnd (wi (n3 + 2)) fun n4 =>
bnd (if (n4 : Int) < (a.n : Int) then n4 else (a.n : Int)) fun n5 =>
slc a n1 n5 1 fun s =>
remK from0 64 fun n6 =>
cl Pg F.limb_Shr [s.v, .int .i64 n6] w [.one .slice] fun (s1 : Sl) w1 =>
cl Pg F.limb_Low [s1.v, .int .i64 n] w1 [.one .slice] fun (s2 : Sl) w2 =>
R (s2.v) w2)
def Dc.zmul_digits : Dc := { N := 32, va := [], vb := [], ann := [], ext := Xt }
theorem Eq.zmul_digits (a : Sl) (from0 : Int) (n : Int) (R : Value → TW → Prop) (w : TW) : denF Pg Dc.zmul_digits Go.Proofs.Try.f58 (Go.Proofs.Try.f58.body.getD .skip) [a.v, .int .i64 from0, .int .i64 n] w R = Sh.zmul_digits a from0 n R w := by kernel_rfl
theorem Ct.zmul_digits {a : Sl} {from0 : Int} {n : Int} {w : TW} {X : Nat → Prop} {K : Tel (fl [.one .slice]) (TW → Prop)} (h : Sh.zmul_digits a from0 n (Rt X [.one .slice] K w) w.here) : Ct Pg F.zmul_digits [a.v, .int .i64 from0, .int .i64 n] w X [.one .slice] K :=
  ct_of_den (D := Dc.zmul_digits) (fn := Go.Proofs.Try.f58) Xt_ok follows_ok (by kernel_rfl) (by kernel_rfl) (by kernel_rfl) (Eq.mpr (Eq.zmul_digits a from0 n _ _) h)

def Sh.zmul_shifted (a0 : Sl) (a1 : Bool) (n : Int) (R : Value → TW → Prop) (w : TW) : Prop :=
nwv w fun w1 =>
nwv w1 fun w2 =>
Jn [.slice, .bool, .slice, .bool] (fun J0 =>
Lp [.int .i64, .slice, .bool, .slice, .bool] (fun (n1 : Int) (x : Sl) (a2 : Bool) (x1 : Sl) (x2 : Bool) w3 C0 =>
cond (decide ((n1 : Int) > 0)) (
bnd (if (1048576 : Int) < n1 then 1048576 else n1) fun n2 =>
cl Pg F.limb_Shl [x.v, .int .i64 n2] w3 [.one .slice] fun (s : Sl) w4 =>
bnd (wi (n1 - n2)) fun n3 =>
C0 n3 s a2 x1 x2 w4) (
J0 x a2 x1 x2 w3)) n a0 a1 Sl.nil false w2) fun (x3 : Sl) (a3 : Bool) (_ : Sl) (_ : Bool) w5 =>
nwv w5 fun w6 =>
R (.agg #[x3.v, .bool a3]) w6
def Dc.zmul_shifted : Dc := { N := 23, va := [(2, 23), (4, 25)], vb := [(23, 2), (25, 2)], ann := [(2, 0, [(5, .one .slice), (24, .one .bool), (25, .one .slice), (26, .one .bool)]), (3, 2, [(1, .one (.int .i64)), (5, .one .slice), (24, .one .bool), (25, .one .slice), (26, .one .bool)])], ext := Xt }
theorem Eq.zmul_shifted (a0 : Sl) (a1 : Bool) (n : Int) (R : Value → TW → Prop) (w : TW) : denF Pg Dc.zmul_shifted Go.Proofs.Try.f73 (Go.Proofs.Try.f73.body.getD .skip) [.agg #[a0.v, .bool a1], .int .i64 n] w R = Sh.zmul_shifted a0 a1 n R w := by kernel_rfl
theorem Ct.zmul_shifted {a0 : Sl} {a1 : Bool} {n : Int} {w : TW} {X : Nat → Prop} {K : Tel (fl [.agg [.slice, .bool]]) (TW → Prop)} (h : Sh.zmul_shifted a0 a1 n (Rt X [.agg [.slice, .bool]] K w) w.here) : Ct Pg F.zmul_shifted [.agg #[a0.v, .bool a1], .int .i64 n] w X [.agg [.slice, .bool]] K :=
  ct_of_den (D := Dc.zmul_shifted) (fn := Go.Proofs.Try.f73) Xt_ok follows_ok (by kernel_rfl) (by kernel_rfl) (by kernel_rfl) (Eq.mpr (Eq.zmul_shifted a0 a1 n _ _) h)
end Go.Proofs.Ytgcnflfempaliaa.Zg
end
