/- A part of the proofs of this seat's laws: words, lemmas or contracts of its functions. -/
import Derived.Test.YtdkhilllajdnpaaGC
set_option linter.unusedVariables false
set_option linter.unusedSimpArgs false
set_option linter.unnecessarySimpa false
section
set_option maxRecDepth 100000
namespace Go.Proofs.Ytdkhilllajdnpaa.Zg
def Sh.api_Nat_Len (n : Sl) (R : Value → TW → Prop) (w : TW) : Prop :=
Jn [.int .i64] (fun J0 =>
Lp [.int .i64] (fun (k : Int) w1 C0 =>
Jn [.bool] (fun J1 =>
cond (decide ((k : Int) > 0)) (
bnd (wi (k - 1)) fun n1 =>
ixa n n1 1 fun a =>
ldc (.int .u64) w1 a fun (v : Int) =>
J1 ((v : Int) == 0) w1) (
J1 false w1)) fun (x : Bool) w2 =>
cond x (
bnd (wi (k - 1)) fun n2 =>
C0 n2 w2) (
J0 k w2)) (n.n : Int) w) fun (k1 : Int) w3 =>
R (.int .i64 k1) w3
def Dc.api_Nat_Len : Dc := { N := 19, va := [], vb := [], ann := [(2, 0, [(3, .one (.int .i64))]), (3, 2, [(3, .one (.int .i64))]), (0, 2, [(15, .one .bool)])], ext := Xt }
theorem Eq.api_Nat_Len (n : Sl) (R : Value → TW → Prop) (w : TW) : denF Pg Dc.api_Nat_Len Go.Proofs.Try.f93 (Go.Proofs.Try.f93.body.getD .skip) [n.v] w R = Sh.api_Nat_Len n R w := by kernel_rfl
theorem Ct.api_Nat_Len {n : Sl} {w : TW} {X : Nat → Prop} {K : Tel (fl [.one (.int .i64)]) (TW → Prop)} (h : Sh.api_Nat_Len n (Rt X [.one (.int .i64)] K w) w.here) : Ct Pg F.api_Nat_Len [n.v] w X [.one (.int .i64)] K :=
  ct_of_den (D := Dc.api_Nat_Len) (fn := Go.Proofs.Try.f93) Xt_ok follows_ok (by kernel_rfl) (by kernel_rfl) (by kernel_rfl) (Eq.mpr (Eq.api_Nat_Len n _ _) h)
end Go.Proofs.Ytdkhilllajdnpaa.Zg
end

section
set_option maxRecDepth 100000
namespace Go.Proofs.Ytdkhilllajdnpaa.Zg
def Sh.bits_Mul64 (x : Int) (y : Int) (R : Value → TW → Prop) (w : TW) : Prop :=
bnd (bits2 .and .u64 x 4294967295) fun n =>
shrK .u64 x 32 fun n1 =>
bnd (bits2 .and .u64 y 4294967295) fun n2 =>
shrK .u64 y 32 fun n3 =>
bnd (wu (n * n2)) fun n4 =>
bnd (wu (n1 * n2)) fun n5 =>
shrK .u64 n4 32 fun n6 =>
bnd (wu (n5 + n6)) fun n7 =>
bnd (bits2 .and .u64 n7 4294967295) fun n8 =>
shrK .u64 n7 32 fun n9 =>
bnd (wu (n * n3)) fun n10 =>
bnd (wu (n8 + n10)) fun n11 =>
bnd (wu (n1 * n3)) fun n12 =>
bnd (wu (n12 + n9)) fun n13 =>
shrK .u64 n11 32 fun n14 =>
bnd (wu (n13 + n14)) fun n15 =>
bnd (wu (x * y)) fun n16 =>
R (.tuple #[.int .u64 n15, .int .u64 n16]) w
def Dc.bits_Mul64 : Dc := { N := 51, va := [], vb := [], ann := [], ext := Xt }
theorem Eq.bits_Mul64 (x : Int) (y : Int) (R : Value → TW → Prop) (w : TW) : denF Pg Dc.bits_Mul64 Go.Proofs.Try.f55 (Go.Proofs.Try.f55.body.getD .skip) [.int .u64 x, .int .u64 y] w R = Sh.bits_Mul64 x y R w := by kernel_rfl
theorem Ct.bits_Mul64 {x : Int} {y : Int} {w : TW} {X : Nat → Prop} {K : Tel (fl [.one (.int .u64), .one (.int .u64)]) (TW → Prop)} (h : Sh.bits_Mul64 x y (Rt X [.one (.int .u64), .one (.int .u64)] K w) w.here) : Ct Pg F.bits_Mul64 [.int .u64 x, .int .u64 y] w X [.one (.int .u64), .one (.int .u64)] K :=
  ct_of_den (D := Dc.bits_Mul64) (fn := Go.Proofs.Try.f55) Xt_ok follows_ok (by kernel_rfl) (by kernel_rfl) (by kernel_rfl) (Eq.mpr (Eq.bits_Mul64 x y _ _) h)
end Go.Proofs.Ytdkhilllajdnpaa.Zg
end

section
set_option maxRecDepth 100000
namespace Go.Proofs.Ytdkhilllajdnpaa.Zg
def Sh.kara_New (t : HL [.int .i64, .int .i64, .int .i64, .int .i64, .int .i64, .int .i64, .int .i64, .int .i64, .int .i64, .int .i64, .int .i64]) (R : Value → TW → Prop) (w : TW) : Prop :=
nwv w fun w1 =>
cl Pg F.school_New [.agg #[.int .i64 t.1, .int .i64 t.2.1, .int .i64 t.2.2.1, .int .i64 t.2.2.2.1, .int .i64 t.2.2.2.2.1, .int .i64 t.2.2.2.2.2.1, .int .i64 t.2.2.2.2.2.2.1, .int .i64 t.2.2.2.2.2.2.2.1, .int .i64 t.2.2.2.2.2.2.2.2.1, .int .i64 t.2.2.2.2.2.2.2.2.2.1, .int .i64 t.2.2.2.2.2.2.2.2.2.2.1]] w1 [.one .ptr] fun (p : Option Addr) w2 =>
nwb w2 [.pointer p] T.kara_Engine fun b w3 =>
R (.pointer (some ⟨b, 0, none⟩)) w3
def Dc.kara_New : Dc := { N := 7, va := [(1, 7)], vb := [(7, 11)], ann := [], ext := Xt }
theorem Eq.kara_New (t : HL [.int .i64, .int .i64, .int .i64, .int .i64, .int .i64, .int .i64, .int .i64, .int .i64, .int .i64, .int .i64, .int .i64]) (R : Value → TW → Prop) (w : TW) : denF Pg Dc.kara_New Go.Proofs.Try.f32 (Go.Proofs.Try.f32.body.getD .skip) [.agg (encs [.int .i64, .int .i64, .int .i64, .int .i64, .int .i64, .int .i64, .int .i64, .int .i64, .int .i64, .int .i64, .int .i64] t).toArray] w R = Sh.kara_New t R w := by kernel_rfl
theorem Ct.kara_New {t : HL [.int .i64, .int .i64, .int .i64, .int .i64, .int .i64, .int .i64, .int .i64, .int .i64, .int .i64, .int .i64, .int .i64]} {w : TW} {X : Nat → Prop} {K : Tel (fl [.one .ptr]) (TW → Prop)} (h : Sh.kara_New t (Rt X [.one .ptr] K w) w.here) : Ct Pg F.kara_New [.agg (encs [.int .i64, .int .i64, .int .i64, .int .i64, .int .i64, .int .i64, .int .i64, .int .i64, .int .i64, .int .i64, .int .i64] t).toArray] w X [.one .ptr] K :=
  ct_of_den (D := Dc.kara_New) (fn := Go.Proofs.Try.f32) Xt_ok follows_ok (by kernel_rfl) (by kernel_rfl) (by kernel_rfl) (Eq.mpr (Eq.kara_New t _ _) h)

def Sh.kara_Engine_Both (e0 : Option Addr) (a : Sl) (b : Sl) (R : Value → TW → Prop) (w : TW) : Prop :=
Jn [.bool] (fun J0 =>
nck e0 fun a1 =>
ldc (.ptr) w a1 fun (v : Option Addr) =>
nck v fun a2 =>
ldc (.ptr) w a2 fun (v1 : Option Addr) =>
nck v1 fun a3 =>
ldc (.int .i64) w (a3.add 3) fun (v2 : Int) =>
cond (decide (((a.n : Int) : Int) ≥ v2)) (
nck e0 fun a4 =>
ldc (.ptr) w a4 fun (v3 : Option Addr) =>
nck v3 fun a5 =>
ldc (.ptr) w a5 fun (v4 : Option Addr) =>
nck v4 fun a6 =>
ldc (.int .i64) w (a6.add 3) fun (v5 : Int) =>
J0 (decide (((b.n : Int) : Int) ≥ v5)) w) (
J0 false w)) fun (x : Bool) w1 =>
Jn [] (fun J1 =>
cond x (
cl Pg F.kara_Engine_Kara [.pointer e0, a.v, b.v, .func (.func F.kara_Engine_Both) #[.pointer e0] #[]] w1 [.one .slice, .one .bool] fun (s : Sl) (ok : Bool) w2 =>
cond ok (
R (s.v) w2) (
J1 w2)) (
J1 w1)) fun  w3 =>
nck e0 fun a7 =>
ldc (.ptr) w3 a7 fun (v6 : Option Addr) =>
cl Pg F.school_Engine_Mul [.pointer v6, a.v, b.v] w3 [.one .slice] fun (s1 : Sl) w4 =>
R (s1.v) w4
def Dc.kara_Engine_Both : Dc := { N := 57, va := [], vb := [], ann := [(0, 1, [(38, .one .bool)]), (1, 2, [])], ext := Xt }
theorem Eq.kara_Engine_Both (e0 : Option Addr) (a : Sl) (b : Sl) (R : Value → TW → Prop) (w : TW) : denF Pg Dc.kara_Engine_Both Go.Proofs.Try.f33 (Go.Proofs.Try.f33.body.getD .skip) [.pointer e0, a.v, b.v] w R = Sh.kara_Engine_Both e0 a b R w := by kernel_rfl
theorem Ct.kara_Engine_Both {e0 : Option Addr} {a : Sl} {b : Sl} {w : TW} {X : Nat → Prop} {K : Tel (fl [.one .slice]) (TW → Prop)} (h : Sh.kara_Engine_Both e0 a b (Rt X [.one .slice] K w) w.here) : Ct Pg F.kara_Engine_Both [.pointer e0, a.v, b.v] w X [.one .slice] K :=
  ct_of_den (D := Dc.kara_Engine_Both) (fn := Go.Proofs.Try.f33) Xt_ok follows_ok (by kernel_rfl) (by kernel_rfl) (by kernel_rfl) (Eq.mpr (Eq.kara_Engine_Both e0 a b _ _) h)

def Sh.kara_Engine_Kara (e0 : Option Addr) (a : Sl) (b : Sl) (inner : Value) (R : Value → TW → Prop) (w : TW) : Prop :=
Jn [.slice, .slice] (fun J0 =>
cond (decide (((a.n : Int) : Int) < (b.n : Int))) (
J0 b a w) (
J0 a b w)) fun (a1 : Sl) (b1 : Sl) w1 =>
bnd (wi ((a1.n : Int) + 1)) fun n =>
divK .i64 n 2 fun n1 =>
cond (decide (((b1.n : Int) : Int) ≤ n1)) (
R (.tuple #[.slice none 0 0, .bool false]) w1) (
nck e0 fun a2 =>
ldc (.ptr) w1 a2 fun (v : Option Addr) =>
nck v fun a3 =>
ldc (.ptr) w1 a3 fun (v1 : Option Addr) =>
nck v1 fun a4 =>
cl Pg F.meter_Meter_Enter [.pointer (some a4)] w1 [.one (.int .i64)] fun (_ : Int) w2 =>
cl Pg F.kara_piece [a1.v, .int .i64 0, .int .i64 n1] w2 [.one .slice] fun (s : Sl) w3 =>
bnd (wi ((a1.n : Int) - n1)) fun n2 =>
cl Pg F.kara_piece [a1.v, .int .i64 n1, .int .i64 n2] w3 [.one .slice] fun (s1 : Sl) w4 =>
cl Pg F.kara_piece [b1.v, .int .i64 0, .int .i64 n1] w4 [.one .slice] fun (s2 : Sl) w5 =>
bnd (wi ((b1.n : Int) - n1)) fun n3 =>
cl Pg F.kara_piece [b1.v, .int .i64 n1, .int .i64 n3] w5 [.one .slice] fun (s3 : Sl) w6 =>
cl Pg F.limb_Add [s.v, s1.v] w6 [.one .slice] fun (s4 : Sl) w7 =>
bnd (wi (n1 + 1)) fun n4 =>
cl Pg F.kara_wide [s4.v, .int .i64 n4] w7 [.one .slice] fun (s5 : Sl) w8 =>
cl Pg F.limb_Add [s2.v, s3.v] w8 [.one .slice] fun (s6 : Sl) w9 =>
bnd (wi (n1 + 1)) fun n5 =>
cl Pg F.kara_wide [s6.v, .int .i64 n5] w9 [.one .slice] fun (s7 : Sl) w10 =>
clv Pg inner [s.v, s2.v] w10 [.one .slice] fun (s8 : Sl) w11 =>
clv Pg inner [s1.v, s3.v] w11 [.one .slice] fun (s9 : Sl) w12 =>
clv Pg inner [s5.v, s7.v] w12 [.one .slice] fun (s10 : Sl) w13 =>
nck e0 fun a5 =>
ldc (.ptr) w13 a5 fun (v2 : Option Addr) =>
nck v2 fun a6 =>
ldc (.ptr) w13 a6 fun (v3 : Option Addr) =>
nck v3 fun a7 =>
cl Pg F.meter_Meter_Leave [.pointer (some a7)] w13 [.one (.int .i64)] fun (_ : Int) w14 =>
cl Pg F.limb_Add [s8.v, s9.v] w14 [.one .slice] fun (s11 : Sl) w15 =>
cl Pg F.limb_Sub [s10.v, s11.v] w15 [.one .slice, .one .bool] fun (s12 : Sl) (_ : Bool) w16 =>
nwb w16 [s8.v, s12.v, s9.v] T.api_Nat fun b2 w17 =>
cl Pg F.limb_Join [.int .i64 n1, .slice (some ⟨b2, 0, none⟩) 3 3] w17 [.one .slice] fun (s13 : Sl) w18 =>
R (.tuple #[s13.v, .bool true]) w18)
def Dc.kara_Engine_Kara : Dc := { N := 117, va := [], vb := [], ann := [(1, 2, [(1, .one .slice), (2, .one .slice)])], ext := Xt }
theorem Eq.kara_Engine_Kara (e0 : Option Addr) (a : Sl) (b : Sl) (inner : Value) (R : Value → TW → Prop) (w : TW) : denF Pg Dc.kara_Engine_Kara Go.Proofs.Try.f68 (Go.Proofs.Try.f68.body.getD .skip) [.pointer e0, a.v, b.v, inner] w R = Sh.kara_Engine_Kara e0 a b inner R w := by kernel_rfl
theorem Ct.kara_Engine_Kara {e0 : Option Addr} {a : Sl} {b : Sl} {inner : Value} {w : TW} {X : Nat → Prop} {K : Tel (fl [.one .slice, .one .bool]) (TW → Prop)} (h : Sh.kara_Engine_Kara e0 a b inner (Rt X [.one .slice, .one .bool] K w) w.here) : Ct Pg F.kara_Engine_Kara [.pointer e0, a.v, b.v, inner] w X [.one .slice, .one .bool] K :=
  ct_of_den (D := Dc.kara_Engine_Kara) (fn := Go.Proofs.Try.f68) Xt_ok follows_ok (by kernel_rfl) (by kernel_rfl) (by kernel_rfl) (Eq.mpr (Eq.kara_Engine_Kara e0 a b inner _ _) h)

def Sh.kara_Engine_KaraSqr (e0 : Option Addr) (a : Sl) (inner : Value) (R : Value → TW → Prop) (w : TW) : Prop :=
cond (decide (((a.n : Int) : Int) < 2)) (
R (.tuple #[.slice none 0 0, .bool false]) w) (
bnd (wi ((a.n : Int) + 1)) fun n =>
divK .i64 n 2 fun n1 =>
nck e0 fun a1 =>
ldc (.ptr) w a1 fun (v : Option Addr) =>
nck v fun a2 =>
ldc (.ptr) w a2 fun (v1 : Option Addr) =>
nck v1 fun a3 =>
cl Pg F.meter_Meter_Enter [.pointer (some a3)] w [.one (.int .i64)] fun (_ : Int) w1 =>
cl Pg F.kara_piece [a.v, .int .i64 0, .int .i64 n1] w1 [.one .slice] fun (s : Sl) w2 =>
bnd (wi ((a.n : Int) - n1)) fun n2 =>
cl Pg F.kara_piece [a.v, .int .i64 n1, .int .i64 n2] w2 [.one .slice] fun (s1 : Sl) w3 =>
cl Pg F.limb_Add [s.v, s1.v] w3 [.one .slice] fun (s2 : Sl) w4 =>
bnd (wi (n1 + 1)) fun n3 =>
cl Pg F.kara_wide [s2.v, .int .i64 n3] w4 [.one .slice] fun (s3 : Sl) w5 =>
clv Pg inner [s.v] w5 [.one .slice] fun (s4 : Sl) w6 =>
clv Pg inner [s1.v] w6 [.one .slice] fun (s5 : Sl) w7 =>
clv Pg inner [s3.v] w7 [.one .slice] fun (s6 : Sl) w8 =>
nck e0 fun a4 =>
ldc (.ptr) w8 a4 fun (v2 : Option Addr) =>
nck v2 fun a5 =>
ldc (.ptr) w8 a5 fun (v3 : Option Addr) =>
nck v3 fun a6 =>
cl Pg F.meter_Meter_Leave [.pointer (some a6)] w8 [.one (.int .i64)] fun (_ : Int) w9 =>
cl Pg F.limb_Add [s4.v, s5.v] w9 [.one .slice] fun (s7 : Sl) w10 =>
cl Pg F.limb_Sub [s6.v, s7.v] w10 [.one .slice, .one .bool] fun (s8 : Sl) (_ : Bool) w11 =>
nwb w11 [s4.v, s8.v, s5.v] T.api_Nat fun b w12 =>
cl Pg F.limb_Join [.int .i64 n1, .slice (some ⟨b, 0, none⟩) 3 3] w12 [.one .slice] fun (s9 : Sl) w13 =>
R (.tuple #[s9.v, .bool true]) w13)
def Dc.kara_Engine_KaraSqr : Dc := { N := 83, va := [], vb := [], ann := [], ext := Xt }
theorem Eq.kara_Engine_KaraSqr (e0 : Option Addr) (a : Sl) (inner : Value) (R : Value → TW → Prop) (w : TW) : denF Pg Dc.kara_Engine_KaraSqr Go.Proofs.Try.f75 (Go.Proofs.Try.f75.body.getD .skip) [.pointer e0, a.v, inner] w R = Sh.kara_Engine_KaraSqr e0 a inner R w := by kernel_rfl
theorem Ct.kara_Engine_KaraSqr {e0 : Option Addr} {a : Sl} {inner : Value} {w : TW} {X : Nat → Prop} {K : Tel (fl [.one .slice, .one .bool]) (TW → Prop)} (h : Sh.kara_Engine_KaraSqr e0 a inner (Rt X [.one .slice, .one .bool] K w) w.here) : Ct Pg F.kara_Engine_KaraSqr [.pointer e0, a.v, inner] w X [.one .slice, .one .bool] K :=
  ct_of_den (D := Dc.kara_Engine_KaraSqr) (fn := Go.Proofs.Try.f75) Xt_ok follows_ok (by kernel_rfl) (by kernel_rfl) (by kernel_rfl) (Eq.mpr (Eq.kara_Engine_KaraSqr e0 a inner _ _) h)

def Sh.kara_piece (a : Sl) (from0 : Int) (n : Int) (R : Value → TW → Prop) (w : TW) : Prop :=
mks w n n T.uint64 8 [.int .u64 0] fun s w1 =>
Jn [] (fun J0 =>
cond (decide ((from0 : Int) < (a.n : Int))) (
bnd (wi (from0 + n)) fun n1 =>
bnd (if (n1 : Int) < (a.n : Int) then n1 else (a.n : Int)) fun n2 =>
slc a from0 n2 1 fun s1 =>
cpy w1 T.uint64 s s1 fun _ w2 =>
J0 w2) (
J0 w1)) fun  w3 =>
R (s.v) w3
def Dc.kara_piece : Dc := { N := 26, va := [], vb := [], ann := [(1, 3, [])], ext := Xt }
theorem Eq.kara_piece (a : Sl) (from0 : Int) (n : Int) (R : Value → TW → Prop) (w : TW) : denF Pg Dc.kara_piece Go.Proofs.Try.f88 (Go.Proofs.Try.f88.body.getD .skip) [a.v, .int .i64 from0, .int .i64 n] w R = Sh.kara_piece a from0 n R w := by kernel_rfl
theorem Ct.kara_piece {a : Sl} {from0 : Int} {n : Int} {w : TW} {X : Nat → Prop} {K : Tel (fl [.one .slice]) (TW → Prop)} (h : Sh.kara_piece a from0 n (Rt X [.one .slice] K w) w.here) : Ct Pg F.kara_piece [a.v, .int .i64 from0, .int .i64 n] w X [.one .slice] K :=
  ct_of_den (D := Dc.kara_piece) (fn := Go.Proofs.Try.f88) Xt_ok follows_ok (by kernel_rfl) (by kernel_rfl) (by kernel_rfl) (Eq.mpr (Eq.kara_piece a from0 n _ _) h)

def Sh.kara_wide (a : Sl) (n : Int) (R : Value → TW → Prop) (w : TW) : Prop :=
cl Pg F.kara_piece [a.v, .int .i64 0, .int .i64 n] w [.one .slice] fun (s : Sl) w1 =>
R (s.v) w1
def Dc.kara_wide : Dc := { N := 8, va := [], vb := [], ann := [], ext := Xt }
theorem Eq.kara_wide (a : Sl) (n : Int) (R : Value → TW → Prop) (w : TW) : denF Pg Dc.kara_wide Go.Proofs.Try.f89 (Go.Proofs.Try.f89.body.getD .skip) [a.v, .int .i64 n] w R = Sh.kara_wide a n R w := by kernel_rfl
theorem Ct.kara_wide {a : Sl} {n : Int} {w : TW} {X : Nat → Prop} {K : Tel (fl [.one .slice]) (TW → Prop)} (h : Sh.kara_wide a n (Rt X [.one .slice] K w) w.here) : Ct Pg F.kara_wide [a.v, .int .i64 n] w X [.one .slice] K :=
  ct_of_den (D := Dc.kara_wide) (fn := Go.Proofs.Try.f89) Xt_ok follows_ok (by kernel_rfl) (by kernel_rfl) (by kernel_rfl) (Eq.mpr (Eq.kara_wide a n _ _) h)
end Go.Proofs.Ytdkhilllajdnpaa.Zg
end

section
set_option maxRecDepth 100000
namespace Go.Proofs.Ytdkhilllajdnpaa.Zg
def Sh.limb_Norm (a : Sl) (R : Value → TW → Prop) (w : TW) : Prop :=
cl Pg F.limb_trim [a.v] w [.one .slice] fun (s : Sl) w1 =>
apd w1 T.uint64 1 8 Sl.nil s fun s1 w2 =>
R (s1.v) w2
def Dc.limb_Norm : Dc := { N := 6, va := [], vb := [], ann := [], ext := Xt }
theorem Eq.limb_Norm (a : Sl) (R : Value → TW → Prop) (w : TW) : denF Pg Dc.limb_Norm Go.Proofs.Try.f53 (Go.Proofs.Try.f53.body.getD .skip) [a.v] w R = Sh.limb_Norm a R w := by kernel_rfl
theorem Ct.limb_Norm {a : Sl} {w : TW} {X : Nat → Prop} {K : Tel (fl [.one .slice]) (TW → Prop)} (h : Sh.limb_Norm a (Rt X [.one .slice] K w) w.here) : Ct Pg F.limb_Norm [a.v] w X [.one .slice] K :=
  ct_of_den (D := Dc.limb_Norm) (fn := Go.Proofs.Try.f53) Xt_ok follows_ok (by kernel_rfl) (by kernel_rfl) (by kernel_rfl) (Eq.mpr (Eq.limb_Norm a _ _) h)

def Sh.limb_Add (a : Sl) (b : Sl) (R : Value → TW → Prop) (w : TW) : Prop :=
cl Pg F.limb_trim [a.v] w [.one .slice] fun (s : Sl) w1 =>
cl Pg F.limb_trim [b.v] w1 [.one .slice] fun (s1 : Sl) w2 =>
Jn [.slice, .slice] (fun J0 =>
cond (decide (((s.n : Int) : Int) < (s1.n : Int))) (
J0 s1 s w2) (
J0 s s1 w2)) fun (a1 : Sl) (b1 : Sl) w3 =>
bnd (wi ((a1.n : Int) + 1)) fun n =>
mks w3 n n T.uint64 8 [.int .u64 0] fun s2 w4 =>
Jn [.int .u64] (fun J1 =>
Lp [.int .u64, .int .i64] (fun (c : Int) (x : Int) w5 C0 =>
cond (decide ((x : Int) < (a1.n : Int))) (
Jn [.int .u64] (fun J2 =>
cond (decide ((x : Int) < (b1.n : Int))) (
ixa b1 x 1 fun a2 =>
ldc (.int .u64) w5 a2 fun (v : Int) =>
J2 v w5) (
J2 0 w5)) fun (y : Int) w6 =>
ixa a1 x 1 fun a3 =>
ldc (.int .u64) w6 a3 fun (v1 : Int) =>
add64 v1 y c fun s3 c1 =>
ixa s2 x 1 fun a4 =>
stc w6 a4 (.int .u64 s3) fun w7 =>
bnd (wi (x + 1)) fun n1 =>
C0 c1 n1 w7) (
J1 c w5)) 0 0 w4) fun (c2 : Int) w8 =>
ixa s2 (a1.n : Int) 1 fun a5 =>
stc w8 a5 (.int .u64 c2) fun w9 =>
cl Pg F.limb_trim [s2.v] w9 [.one .slice] fun (s4 : Sl) w10 =>
R (s4.v) w10
def Dc.limb_Add : Dc := { N := 58, va := [], vb := [], ann := [(1, 3, [(0, .one .slice), (1, .one .slice)]), (2, 0, [(6, .one (.int .u64))]), (3, 7, [(6, .one (.int .u64)), (26, .one (.int .i64))]), (1, 11, [(8, .one (.int .u64))])], ext := Xt }
theorem Eq.limb_Add (a : Sl) (b : Sl) (R : Value → TW → Prop) (w : TW) : denF Pg Dc.limb_Add Go.Proofs.Try.f58 (Go.Proofs.Try.f58.body.getD .skip) [a.v, b.v] w R = Sh.limb_Add a b R w := by kernel_rfl
theorem Ct.limb_Add {a : Sl} {b : Sl} {w : TW} {X : Nat → Prop} {K : Tel (fl [.one .slice]) (TW → Prop)} (h : Sh.limb_Add a b (Rt X [.one .slice] K w) w.here) : Ct Pg F.limb_Add [a.v, b.v] w X [.one .slice] K :=
  ct_of_den (D := Dc.limb_Add) (fn := Go.Proofs.Try.f58) Xt_ok follows_ok (by kernel_rfl) (by kernel_rfl) (by kernel_rfl) (Eq.mpr (Eq.limb_Add a b _ _) h)

def Sh.limb_Sum (l : Sl) (R : Value → TW → Prop) (w : TW) : Prop :=
cl Pg F.limb_Join [.int .i64 0, l.v] w [.one .slice] fun (s : Sl) w1 =>
R (s.v) w1
def Dc.limb_Sum : Dc := { N := 5, va := [], vb := [], ann := [], ext := Xt }
theorem Eq.limb_Sum (l : Sl) (R : Value → TW → Prop) (w : TW) : denF Pg Dc.limb_Sum Go.Proofs.Try.f60 (Go.Proofs.Try.f60.body.getD .skip) [l.v] w R = Sh.limb_Sum l R w := by kernel_rfl
theorem Ct.limb_Sum {l : Sl} {w : TW} {X : Nat → Prop} {K : Tel (fl [.one .slice]) (TW → Prop)} (h : Sh.limb_Sum l (Rt X [.one .slice] K w) w.here) : Ct Pg F.limb_Sum [l.v] w X [.one .slice] K :=
  ct_of_den (D := Dc.limb_Sum) (fn := Go.Proofs.Try.f60) Xt_ok follows_ok (by kernel_rfl) (by kernel_rfl) (by kernel_rfl) (Eq.mpr (Eq.limb_Sum l _ _) h)

def Sh.limb_Shl (a : Sl) (n : Int) (R : Value → TW → Prop) (w : TW) : Prop :=
cl Pg F.limb_within [.int .i64 n, .int .i64 1048576] w [.one (.int .i64)] fun (r : Int) w1 =>
cl Pg F.limb_trim [a.v] w1 [.one .slice] fun (s : Sl) w2 =>
cond (((s.n : Int) : Int) == 0) (
R (.slice none 0 0) w2) (
divK .i64 r 64 fun n1 =>
remK r 64 fun n2 =>
bnd (wu (n2)) fun n3 =>
bnd (wi ((s.n : Int) + n1)) fun n4 =>
bnd (wi (n4 + 1)) fun n5 =>
mks w2 n5 n5 T.uint64 8 [.int .u64 0] fun s1 w3 =>
Jn [] (fun J0 =>
Lp [.int .i64] (fun (x : Int) w4 C0 =>
cond (decide ((x : Int) < (s.n : Int))) (
ixa s x 1 fun a1 =>
ldc (.int .u64) w4 a1 fun (v : Int) =>
bnd (wi (x + n1)) fun n6 =>
bnd (wi (x + n1)) fun n7 =>
ixa s1 n7 1 fun a2 =>
ldc (.int .u64) w4 a2 fun (v1 : Int) =>
shlK .u64 v n3 fun n8 =>
bnd (bits2 .or .u64 v1 n8) fun n9 =>
ixa s1 n6 1 fun a3 =>
stc w4 a3 (.int .u64 n9) fun w5 =>
Jn [] (fun J1 =>
cond (decide ((n3 : Int) > 0)) (
bnd (wi (x + n1)) fun n10 =>
bnd (wi (n10 + 1)) fun n11 =>
bnd (wu (64 - n3)) fun n12 =>
shrK .u64 v n12 fun n13 =>
ixa s1 n11 1 fun a4 =>
stc w5 a4 (.int .u64 n13) fun w6 =>
J1 w6) (
J1 w5)) fun  w7 =>
bnd (wi (x + 1)) fun n14 =>
C0 n14 w7) (
J0 w4)) 0 w3) fun  w8 =>
cl Pg F.limb_trim [s1.v] w8 [.one .slice] fun (s2 : Sl) w9 =>
R (s2.v) w9)
def Dc.limb_Shl : Dc := { N := 65, va := [], vb := [], ann := [(2, 0, []), (3, 8, [(30, .one (.int .i64))]), (1, 12, [])], ext := Xt }
theorem Eq.limb_Shl (a : Sl) (n : Int) (R : Value → TW → Prop) (w : TW) : denF Pg Dc.limb_Shl Go.Proofs.Try.f61 (Go.Proofs.Try.f61.body.getD .skip) [a.v, .int .i64 n] w R = Sh.limb_Shl a n R w := by kernel_rfl
theorem Ct.limb_Shl {a : Sl} {n : Int} {w : TW} {X : Nat → Prop} {K : Tel (fl [.one .slice]) (TW → Prop)} (h : Sh.limb_Shl a n (Rt X [.one .slice] K w) w.here) : Ct Pg F.limb_Shl [a.v, .int .i64 n] w X [.one .slice] K :=
  ct_of_den (D := Dc.limb_Shl) (fn := Go.Proofs.Try.f61) Xt_ok follows_ok (by kernel_rfl) (by kernel_rfl) (by kernel_rfl) (Eq.mpr (Eq.limb_Shl a n _ _) h)

def Sh.limb_trim (a : Sl) (R : Value → TW → Prop) (w : TW) : Prop :=
cl Pg F.api_Nat_Len [a.v] w [.one (.int .i64)] fun (r : Int) w1 =>
slc a 0 r 1 fun s =>
R (s.v) w1
def Dc.limb_trim : Dc := { N := 7, va := [], vb := [], ann := [], ext := Xt }
theorem Eq.limb_trim (a : Sl) (R : Value → TW → Prop) (w : TW) : denF Pg Dc.limb_trim Go.Proofs.Try.f82 (Go.Proofs.Try.f82.body.getD .skip) [a.v] w R = Sh.limb_trim a R w := by kernel_rfl
theorem Ct.limb_trim {a : Sl} {w : TW} {X : Nat → Prop} {K : Tel (fl [.one .slice]) (TW → Prop)} (h : Sh.limb_trim a (Rt X [.one .slice] K w) w.here) : Ct Pg F.limb_trim [a.v] w X [.one .slice] K :=
  ct_of_den (D := Dc.limb_trim) (fn := Go.Proofs.Try.f82) Xt_ok follows_ok (by kernel_rfl) (by kernel_rfl) (by kernel_rfl) (Eq.mpr (Eq.limb_trim a _ _) h)

def Sh.limb_Sub (a : Sl) (b : Sl) (R : Value → TW → Prop) (w : TW) : Prop :=
cl Pg F.limb_trim [a.v] w [.one .slice] fun (s : Sl) w1 =>
cl Pg F.limb_trim [b.v] w1 [.one .slice] fun (s1 : Sl) w2 =>
cl Pg F.limb_Cmp [s.v, s1.v] w2 [.one (.int .i64)] fun (r : Int) w3 =>
cond (decide ((r : Int) < 0)) (
R (.tuple #[.slice none 0 0, .bool false]) w3) (
mks w3 (s.n : Int) (s.n : Int) T.uint64 8 [.int .u64 0] fun s2 w4 =>
Jn [] (fun J0 =>
Lp [.int .u64, .int .i64] (fun (c : Int) (x : Int) w5 C0 =>
cond (decide ((x : Int) < (s.n : Int))) (
Jn [.int .u64] (fun J1 =>
cond (decide ((x : Int) < (s1.n : Int))) (
ixa s1 x 1 fun a1 =>
ldc (.int .u64) w5 a1 fun (v : Int) =>
J1 v w5) (
J1 0 w5)) fun (y : Int) w6 =>
ixa s x 1 fun a2 =>
ldc (.int .u64) w6 a2 fun (v1 : Int) =>
sub64 v1 y c fun s3 c1 =>
ixa s2 x 1 fun a3 =>
stc w6 a3 (.int .u64 s3) fun w7 =>
bnd (wi (x + 1)) fun n =>
C0 c1 n w7) (
J0 w5)) 0 0 w4) fun  w8 =>
cl Pg F.limb_trim [s2.v] w8 [.one .slice] fun (s4 : Sl) w9 =>
R (.tuple #[s4.v, .bool true]) w9)
def Dc.limb_Sub : Dc := { N := 50, va := [], vb := [], ann := [(2, 0, []), (3, 7, [(7, .one (.int .u64)), (23, .one (.int .i64))]), (1, 11, [(9, .one (.int .u64))])], ext := Xt }
theorem Eq.limb_Sub (a : Sl) (b : Sl) (R : Value → TW → Prop) (w : TW) : denF Pg Dc.limb_Sub Go.Proofs.Try.f83 (Go.Proofs.Try.f83.body.getD .skip) [a.v, b.v] w R = Sh.limb_Sub a b R w := by kernel_rfl
theorem Ct.limb_Sub {a : Sl} {b : Sl} {w : TW} {X : Nat → Prop} {K : Tel (fl [.one .slice, .one .bool]) (TW → Prop)} (h : Sh.limb_Sub a b (Rt X [.one .slice, .one .bool] K w) w.here) : Ct Pg F.limb_Sub [a.v, b.v] w X [.one .slice, .one .bool] K :=
  ct_of_den (D := Dc.limb_Sub) (fn := Go.Proofs.Try.f83) Xt_ok follows_ok (by kernel_rfl) (by kernel_rfl) (by kernel_rfl) (Eq.mpr (Eq.limb_Sub a b _ _) h)

def Sh.limb_Join (k : Int) (parts : Sl) (R : Value → TW → Prop) (w : TW) : Prop :=
cl Pg F.limb_within [.int .i64 k, .int .i64 16384] w [.one (.int .i64)] fun (r : Int) w1 =>
Jn [.int .i64] (fun J0 =>
Lp [.int .i64, .int .i64] (fun (n : Int) (x : Int) w2 C0 =>
cond (decide ((x : Int) < (parts.n : Int))) (
ixa parts x 1 fun a =>
ldc (.slice) w2 a fun (v : Sl) =>
cl Pg F.api_Nat_Len [v.v] w2 [.one (.int .i64)] fun (r1 : Int) w3 =>
Jn [.int .i64] (fun J1 =>
cond (decide ((r1 : Int) > 0)) (
bnd (wi (r * x)) fun n1 =>
bnd (wi (n1 + r1)) fun n2 =>
bnd (if (n2 : Int) > n then n2 else n) fun n3 =>
J1 n3 w3) (
J1 n w3)) fun (n4 : Int) w4 =>
bnd (wi (x + 1)) fun n5 =>
C0 n4 n5 w4) (
J0 n w2)) 0 0 w1) fun (n6 : Int) w5 =>
bnd (wi (n6 + 2)) fun n7 =>
mks w5 n7 n7 T.uint64 8 [.int .u64 0] fun s w6 =>
Jn [] (fun J2 =>
Lp [.int .i64] (fun (x1 : Int) w7 C1 =>
cond (decide ((x1 : Int) < (parts.n : Int))) (
ixa parts x1 1 fun a1 =>
ldc (.slice) w7 a1 fun (v1 : Sl) =>
cl Pg F.limb_trim [v1.v] w7 [.one .slice] fun (s1 : Sl) w8 =>
Jn [] (fun J3 =>
Lp [.int .u64, .int .i64] (fun (c : Int) (j : Int) w9 C2 =>
Jn [.bool] (fun J4 =>
cond (decide ((j : Int) < (s1.n : Int))) (
J4 true w9) (
J4 (decide ((c : Int) > 0)) w9)) fun (x2 : Bool) w10 =>
cond x2 (
Jn [.int .u64] (fun J5 =>
cond (decide ((j : Int) < (s1.n : Int))) (
ixa s1 j 1 fun a2 =>
ldc (.int .u64) w10 a2 fun (v2 : Int) =>
J5 v2 w10) (
J5 0 w10)) fun (y : Int) w11 =>
bnd (wi (r * x1)) fun n8 =>
bnd (wi (n8 + j)) fun n9 =>
bnd (wi (r * x1)) fun n10 =>
bnd (wi (n10 + j)) fun n11 =>
ixa s n11 1 fun a3 =>
ldc (.int .u64) w11 a3 fun (v3 : Int) =>
add64 v3 y c fun s2 c1 =>
ixa s n9 1 fun a4 =>
stc w11 a4 (.int .u64 s2) fun w12 =>
bnd (wi (j + 1)) fun n12 =>
C2 c1 n12 w12) (
J3 w10)) 0 0 w8) fun  w13 =>
bnd (wi (x1 + 1)) fun n13 =>
C1 n13 w13) (
J2 w7)) 0 w6) fun  w14 =>
cl Pg F.limb_trim [s.v] w14 [.one .slice] fun (s3 : Sl) w15 =>
R (s3.v) w15
def Dc.limb_Join : Dc := { N := 90, va := [], vb := [], ann := [(2, 0, [(5, .one (.int .i64))]), (3, 4, [(5, .one (.int .i64)), (19, .one (.int .i64))]), (1, 8, [(5, .one (.int .i64))]), (2, 2, []), (3, 12, [(41, .one (.int .i64))]), (2, 4, []), (3, 17, [(12, .one (.int .u64)), (13, .one (.int .i64))]), (0, 17, [(55, .one .bool)]), (1, 21, [(14, .one (.int .u64))])], ext := Xt }
theorem Eq.limb_Join (k : Int) (parts : Sl) (R : Value → TW → Prop) (w : TW) : denF Pg Dc.limb_Join Go.Proofs.Try.f84 (Go.Proofs.Try.f84.body.getD .skip) [.int .i64 k, parts.v] w R = Sh.limb_Join k parts R w := by kernel_rfl
theorem Ct.limb_Join {k : Int} {parts : Sl} {w : TW} {X : Nat → Prop} {K : Tel (fl [.one .slice]) (TW → Prop)} (h : Sh.limb_Join k parts (Rt X [.one .slice] K w) w.here) : Ct Pg F.limb_Join [.int .i64 k, parts.v] w X [.one .slice] K :=
  ct_of_den (D := Dc.limb_Join) (fn := Go.Proofs.Try.f84) Xt_ok follows_ok (by kernel_rfl) (by kernel_rfl) (by kernel_rfl) (Eq.mpr (Eq.limb_Join k parts _ _) h)

def Sh.limb_within (n : Int) (most : Int) (R : Value → TW → Prop) (w : TW) : Prop :=
bnd (if (most : Int) < n then most else n) fun n1 =>
bnd (if (n1 : Int) > 0 then n1 else 0) fun n2 =>
R (.int .i64 n2) w
def Dc.limb_within : Dc := { N := 9, va := [], vb := [], ann := [], ext := Xt }
theorem Eq.limb_within (n : Int) (most : Int) (R : Value → TW → Prop) (w : TW) : denF Pg Dc.limb_within Go.Proofs.Try.f85 (Go.Proofs.Try.f85.body.getD .skip) [.int .i64 n, .int .i64 most] w R = Sh.limb_within n most R w := by kernel_rfl
theorem Ct.limb_within {n : Int} {most : Int} {w : TW} {X : Nat → Prop} {K : Tel (fl [.one (.int .i64)]) (TW → Prop)} (h : Sh.limb_within n most (Rt X [.one (.int .i64)] K w) w.here) : Ct Pg F.limb_within [.int .i64 n, .int .i64 most] w X [.one (.int .i64)] K :=
  ct_of_den (D := Dc.limb_within) (fn := Go.Proofs.Try.f85) Xt_ok follows_ok (by kernel_rfl) (by kernel_rfl) (by kernel_rfl) (Eq.mpr (Eq.limb_within n most _ _) h)

def Sh.limb_Cmp (a : Sl) (b : Sl) (R : Value → TW → Prop) (w : TW) : Prop :=
cl Pg F.api_Nat_Len [a.v] w [.one (.int .i64)] fun (r : Int) w1 =>
cl Pg F.api_Nat_Len [b.v] w1 [.one (.int .i64)] fun (r1 : Int) w2 =>
cond ((r : Int) != r1) (
cond (decide ((r : Int) < r1)) (
R (.int .i64 (-1)) w2) (
R (.int .i64 1) w2)) (
bnd (wi (r - 1)) fun n =>
Jn [] (fun J0 =>
Lp [.int .i64] (fun (i : Int) w3 C0 =>
cond (decide ((i : Int) ≥ 0)) (
ixa a i 1 fun a1 =>
ldc (.int .u64) w3.drew a1 fun (v : Int) =>
ixa b i 1 fun a2 =>
ldc (.int .u64) w3.drew a2 fun (v1 : Int) =>
cond ((v : Int) != v1) (
ixa a i 1 fun a3 =>
ldc (.int .u64) w3.drew.drew a3 fun (v2 : Int) =>
ixa b i 1 fun a4 =>
ldc (.int .u64) w3.drew.drew a4 fun (v3 : Int) =>
cond (decide ((v2 : Int) < v3)) (
R (.int .i64 (-1)) w3.drew.drew) (
R (.int .i64 1) w3.drew.drew)) (
bnd (wi (i - 1)) fun n1 =>
C0 n1 w3.drew)) (
J0 w3)) n w2) fun  w4 =>
R (.int .i64 0) w4)
def Dc.limb_Cmp : Dc := { N := 42, va := [], vb := [], ann := [(2, 0, []), (3, 7, [(7, .one (.int .i64))])], ext := Xt }
theorem Eq.limb_Cmp (a : Sl) (b : Sl) (R : Value → TW → Prop) (w : TW) : denF Pg Dc.limb_Cmp Go.Proofs.Try.f94 (Go.Proofs.Try.f94.body.getD .skip) [a.v, b.v] w R = Sh.limb_Cmp a b R w := by kernel_rfl
theorem Ct.limb_Cmp {a : Sl} {b : Sl} {w : TW} {X : Nat → Prop} {K : Tel (fl [.one (.int .i64)]) (TW → Prop)} (h : Sh.limb_Cmp a b (Rt X [.one (.int .i64)] K w) w.here) : Ct Pg F.limb_Cmp [a.v, b.v] w X [.one (.int .i64)] K :=
  ct_of_den (D := Dc.limb_Cmp) (fn := Go.Proofs.Try.f94) Xt_ok follows_ok (by kernel_rfl) (by kernel_rfl) (by kernel_rfl) (Eq.mpr (Eq.limb_Cmp a b _ _) h)

def Sh.limb_Shr (a : Sl) (n : Int) (R : Value → TW → Prop) (w : TW) : Prop :=
cl Pg F.limb_within [.int .i64 n, .int .i64 1048576] w [.one (.int .i64)] fun (r : Int) w1 =>
cl Pg F.limb_trim [a.v] w1 [.one .slice] fun (s : Sl) w2 =>
divK .i64 r 64 fun n1 =>
remK r 64 fun n2 =>
bnd (wu (n2)) fun n3 =>
cond (decide ((n1 : Int) ≥ (s.n : Int))) (
R (.slice none 0 0) w2) (
bnd (wi ((s.n : Int) - n1)) fun n4 =>
mks w2 n4 n4 T.uint64 8 [.int .u64 0] fun s1 w3 =>
Jn [] (fun J0 =>
Lp [.int .i64] (fun (x : Int) w4 C0 =>
cond (decide ((x : Int) < (s1.n : Int))) (
bnd (wi (x + n1)) fun n5 =>
ixa s n5 1 fun a1 =>
ldc (.int .u64) w4 a1 fun (v : Int) =>
shrK .u64 v n3 fun n6 =>
ixa s1 x 1 fun a2 =>
stc w4 a2 (.int .u64 n6) fun w5 =>
Jn [.bool] (fun J1 =>
cond (decide ((n3 : Int) > 0)) (
bnd (wi (x + n1)) fun n7 =>
bnd (wi (n7 + 1)) fun n8 =>
J1 (decide ((n8 : Int) < (s.n : Int))) w5) (
J1 false w5)) fun (x1 : Bool) w6 =>
Jn [] (fun J2 =>
cond x1 (
ixa s1 x 1 fun a3 =>
ldc (.int .u64) w6.drew a3 fun (v1 : Int) =>
bnd (wi (x + n1)) fun n9 =>
bnd (wi (n9 + 1)) fun n10 =>
ixa s n10 1 fun a4 =>
ldc (.int .u64) w6.drew a4 fun (v2 : Int) =>
bnd (wu (64 - n3)) fun n11 =>
shlK .u64 v2 n11 fun n12 =>
bnd (bits2 .or .u64 v1 n12) fun n13 =>
ixa s1 x 1 fun a5 =>
stc w6.drew a5 (.int .u64 n13) fun w7 =>
J2 w7) (
J2 w6)) fun  w8 =>
bnd (wi (x + 1)) fun n14 =>
C0 n14 w8) (
J0 w4)) 0 w3) fun  w9 =>
cl Pg F.limb_trim [s1.v] w9 [.one .slice] fun (s2 : Sl) w10 =>
R (s2.v) w10)
def Dc.limb_Shr : Dc := { N := 75, va := [], vb := [], ann := [(2, 0, []), (3, 8, [(29, .one (.int .i64))]), (0, 11, [(53, .one .bool)]), (1, 12, [])], ext := Xt }
theorem Eq.limb_Shr (a : Sl) (n : Int) (R : Value → TW → Prop) (w : TW) : denF Pg Dc.limb_Shr Go.Proofs.Try.f97 (Go.Proofs.Try.f97.body.getD .skip) [a.v, .int .i64 n] w R = Sh.limb_Shr a n R w := by kernel_rfl
theorem Ct.limb_Shr {a : Sl} {n : Int} {w : TW} {X : Nat → Prop} {K : Tel (fl [.one .slice]) (TW → Prop)} (h : Sh.limb_Shr a n (Rt X [.one .slice] K w) w.here) : Ct Pg F.limb_Shr [a.v, .int .i64 n] w X [.one .slice] K :=
  ct_of_den (D := Dc.limb_Shr) (fn := Go.Proofs.Try.f97) Xt_ok follows_ok (by kernel_rfl) (by kernel_rfl) (by kernel_rfl) (Eq.mpr (Eq.limb_Shr a n _ _) h)
end Go.Proofs.Ytdkhilllajdnpaa.Zg
end

section
set_option maxRecDepth 100000
namespace Go.Proofs.Ytdkhilllajdnpaa.Zg
def Sh.meter_Meter_Now (m : Option Addr) (R : Value → TW → Prop) (w : TW) : Prop :=
nck m fun a =>
ldc (.int .i64) w (a.add 1) fun (v : Int) =>
R (.int .i64 v) w
def Dc.meter_Meter_Now : Dc := { N := 7, va := [], vb := [], ann := [], ext := Xt }
theorem Eq.meter_Meter_Now (m : Option Addr) (R : Value → TW → Prop) (w : TW) : denF Pg Dc.meter_Meter_Now Go.Proofs.Try.f35 (Go.Proofs.Try.f35.body.getD .skip) [.pointer m] w R = Sh.meter_Meter_Now m R w := by kernel_rfl
theorem Ct.meter_Meter_Now {m : Option Addr} {w : TW} {X : Nat → Prop} {K : Tel (fl [.one (.int .i64)]) (TW → Prop)} (h : Sh.meter_Meter_Now m (Rt X [.one (.int .i64)] K w) w.here) : Ct Pg F.meter_Meter_Now [.pointer m] w X [.one (.int .i64)] K :=
  ct_of_den (D := Dc.meter_Meter_Now) (fn := Go.Proofs.Try.f35) Xt_ok follows_ok (by kernel_rfl) (by kernel_rfl) (by kernel_rfl) (Eq.mpr (Eq.meter_Meter_Now m _ _) h)

def Sh.meter_Meter_Muls (m : Option Addr) (R : Value → TW → Prop) (w : TW) : Prop :=
nck m fun a =>
ldc (.int .i64) w a fun (v : Int) =>
R (.int .i64 v) w
def Dc.meter_Meter_Muls : Dc := { N := 7, va := [], vb := [], ann := [], ext := Xt }
theorem Eq.meter_Meter_Muls (m : Option Addr) (R : Value → TW → Prop) (w : TW) : denF Pg Dc.meter_Meter_Muls Go.Proofs.Try.f43 (Go.Proofs.Try.f43.body.getD .skip) [.pointer m] w R = Sh.meter_Meter_Muls m R w := by kernel_rfl
theorem Ct.meter_Meter_Muls {m : Option Addr} {w : TW} {X : Nat → Prop} {K : Tel (fl [.one (.int .i64)]) (TW → Prop)} (h : Sh.meter_Meter_Muls m (Rt X [.one (.int .i64)] K w) w.here) : Ct Pg F.meter_Meter_Muls [.pointer m] w X [.one (.int .i64)] K :=
  ct_of_den (D := Dc.meter_Meter_Muls) (fn := Go.Proofs.Try.f43) Xt_ok follows_ok (by kernel_rfl) (by kernel_rfl) (by kernel_rfl) (Eq.mpr (Eq.meter_Meter_Muls m _ _) h)

def Sh.meter_Meter_Spend (m : Option Addr) (n : Int) (R : Value → TW → Prop) (w : TW) : Prop :=
Jn [] (fun J0 =>
cond (decide ((n : Int) > 0)) (
nck m fun a =>
ldc (.int .i64) w a fun (v : Int) =>
bnd (wi (v + n)) fun n1 =>
nck m fun a1 =>
stc w a1 (.int .i64 n1) fun w1 =>
J0 w1) (
J0 w)) fun  w2 =>
nck m fun a2 =>
ldc (.int .i64) w2 a2 fun (v1 : Int) =>
R (.int .i64 v1) w2
def Dc.meter_Meter_Spend : Dc := { N := 20, va := [], vb := [], ann := [(1, 2, [])], ext := Xt }
theorem Eq.meter_Meter_Spend (m : Option Addr) (n : Int) (R : Value → TW → Prop) (w : TW) : denF Pg Dc.meter_Meter_Spend Go.Proofs.Try.f71 (Go.Proofs.Try.f71.body.getD .skip) [.pointer m, .int .i64 n] w R = Sh.meter_Meter_Spend m n R w := by kernel_rfl
theorem Ct.meter_Meter_Spend {m : Option Addr} {n : Int} {w : TW} {X : Nat → Prop} {K : Tel (fl [.one (.int .i64)]) (TW → Prop)} (h : Sh.meter_Meter_Spend m n (Rt X [.one (.int .i64)] K w) w.here) : Ct Pg F.meter_Meter_Spend [.pointer m, .int .i64 n] w X [.one (.int .i64)] K :=
  ct_of_den (D := Dc.meter_Meter_Spend) (fn := Go.Proofs.Try.f71) Xt_ok follows_ok (by kernel_rfl) (by kernel_rfl) (by kernel_rfl) (Eq.mpr (Eq.meter_Meter_Spend m n _ _) h)

def Sh.meter_Meter_Deep (m : Option Addr) (R : Value → TW → Prop) (w : TW) : Prop :=
nck m fun a =>
ldc (.int .i64) w (a.add 2) fun (v : Int) =>
R (.int .i64 v) w
def Dc.meter_Meter_Deep : Dc := { N := 7, va := [], vb := [], ann := [], ext := Xt }
theorem Eq.meter_Meter_Deep (m : Option Addr) (R : Value → TW → Prop) (w : TW) : denF Pg Dc.meter_Meter_Deep Go.Proofs.Try.f74 (Go.Proofs.Try.f74.body.getD .skip) [.pointer m] w R = Sh.meter_Meter_Deep m R w := by kernel_rfl
theorem Ct.meter_Meter_Deep {m : Option Addr} {w : TW} {X : Nat → Prop} {K : Tel (fl [.one (.int .i64)]) (TW → Prop)} (h : Sh.meter_Meter_Deep m (Rt X [.one (.int .i64)] K w) w.here) : Ct Pg F.meter_Meter_Deep [.pointer m] w X [.one (.int .i64)] K :=
  ct_of_den (D := Dc.meter_Meter_Deep) (fn := Go.Proofs.Try.f74) Xt_ok follows_ok (by kernel_rfl) (by kernel_rfl) (by kernel_rfl) (Eq.mpr (Eq.meter_Meter_Deep m _ _) h)

def Sh.meter_Meter_Enter (m : Option Addr) (R : Value → TW → Prop) (w : TW) : Prop :=
nck m fun a =>
ldc (.int .i64) w (a.add 1) fun (v : Int) =>
bnd (wi (v + 1)) fun n =>
nck m fun a1 =>
stc w (a1.add 1) (.int .i64 n) fun w1 =>
nck m fun a2 =>
ldc (.int .i64) w1.drew (a2.add 2) fun (v1 : Int) =>
nck m fun a3 =>
ldc (.int .i64) w1.drew (a3.add 1) fun (v2 : Int) =>
bnd (if (v2 : Int) > v1 then v2 else v1) fun n1 =>
nck m fun a4 =>
stc w1.drew (a4.add 2) (.int .i64 n1) fun w2 =>
nck m fun a5 =>
ldc (.int .i64) w2 (a5.add 1) fun (v3 : Int) =>
R (.int .i64 v3) w2
def Dc.meter_Meter_Enter : Dc := { N := 26, va := [], vb := [], ann := [], ext := Xt }
theorem Eq.meter_Meter_Enter (m : Option Addr) (R : Value → TW → Prop) (w : TW) : denF Pg Dc.meter_Meter_Enter Go.Proofs.Try.f87 (Go.Proofs.Try.f87.body.getD .skip) [.pointer m] w R = Sh.meter_Meter_Enter m R w := by kernel_rfl
theorem Ct.meter_Meter_Enter {m : Option Addr} {w : TW} {X : Nat → Prop} {K : Tel (fl [.one (.int .i64)]) (TW → Prop)} (h : Sh.meter_Meter_Enter m (Rt X [.one (.int .i64)] K w) w.here) : Ct Pg F.meter_Meter_Enter [.pointer m] w X [.one (.int .i64)] K :=
  ct_of_den (D := Dc.meter_Meter_Enter) (fn := Go.Proofs.Try.f87) Xt_ok follows_ok (by kernel_rfl) (by kernel_rfl) (by kernel_rfl) (Eq.mpr (Eq.meter_Meter_Enter m _ _) h)

def Sh.meter_Meter_Leave (m : Option Addr) (R : Value → TW → Prop) (w : TW) : Prop :=
nck m fun a =>
ldc (.int .i64) w (a.add 1) fun (v : Int) =>
Jn [] (fun J0 =>
cond (decide ((v : Int) > 0)) (
nck m fun a1 =>
ldc (.int .i64) w (a1.add 1) fun (v1 : Int) =>
bnd (wi (v1 - 1)) fun n =>
nck m fun a2 =>
stc w (a2.add 1) (.int .i64 n) fun w1 =>
J0 w1) (
J0 w)) fun  w2 =>
nck m fun a3 =>
ldc (.int .i64) w2 (a3.add 1) fun (v2 : Int) =>
R (.int .i64 v2) w2
def Dc.meter_Meter_Leave : Dc := { N := 19, va := [], vb := [], ann := [(1, 2, [])], ext := Xt }
theorem Eq.meter_Meter_Leave (m : Option Addr) (R : Value → TW → Prop) (w : TW) : denF Pg Dc.meter_Meter_Leave Go.Proofs.Try.f90 (Go.Proofs.Try.f90.body.getD .skip) [.pointer m] w R = Sh.meter_Meter_Leave m R w := by kernel_rfl
theorem Ct.meter_Meter_Leave {m : Option Addr} {w : TW} {X : Nat → Prop} {K : Tel (fl [.one (.int .i64)]) (TW → Prop)} (h : Sh.meter_Meter_Leave m (Rt X [.one (.int .i64)] K w) w.here) : Ct Pg F.meter_Meter_Leave [.pointer m] w X [.one (.int .i64)] K :=
  ct_of_den (D := Dc.meter_Meter_Leave) (fn := Go.Proofs.Try.f90) Xt_ok follows_ok (by kernel_rfl) (by kernel_rfl) (by kernel_rfl) (Eq.mpr (Eq.meter_Meter_Leave m _ _) h)
end Go.Proofs.Ytdkhilllajdnpaa.Zg
end

section
set_option maxRecDepth 100000
namespace Go.Proofs.Ytdkhilllajdnpaa.Zg
def Sh.school_Engine_Mul (e0 : Option Addr) (a : Sl) (b : Sl) (R : Value → TW → Prop) (w : TW) : Prop :=
nck e0 fun a1 =>
ldc (.ptr) w a1 fun (v : Option Addr) =>
nck v fun a2 =>
bnd (wi ((a.n : Int) * (b.n : Int))) fun n =>
cl Pg F.meter_Meter_Spend [.pointer (some a2), .int .i64 n] w [.one (.int .i64)] fun (_ : Int) w1 =>
bnd (wi ((a.n : Int) + (b.n : Int))) fun n1 =>
mks w1 n1 n1 T.uint64 8 [.int .u64 0] fun s w2 =>
Jn [] (fun J0 =>
Lp [.int .i64] (fun (x : Int) w3 C0 =>
cond (decide ((x : Int) < (a.n : Int))) (
ixa a x 1 fun a3 =>
ldc (.int .u64) w3 a3 fun (v1 : Int) =>
Jn [.int .u64] (fun J1 =>
Lp [.int .u64, .int .i64] (fun (c : Int) (x1 : Int) w4 C1 =>
cond (decide ((x1 : Int) < (b.n : Int))) (
ixa b x1 1 fun a4 =>
ldc (.int .u64) w4 a4 fun (v2 : Int) =>
cl Pg F.bits_Mul64 [.int .u64 v1, .int .u64 v2] w4 [.one (.int .u64), .one (.int .u64)] fun (r1 : Int) (r2 : Int) w5 =>
add64 r2 c 0 fun s1 c1 =>
bnd (wu (r1 + c1)) fun n2 =>
bnd (wi (x + x1)) fun n3 =>
bnd (wi (x + x1)) fun n4 =>
ixa s n4 1 fun a5 =>
ldc (.int .u64) w5 a5 fun (v3 : Int) =>
add64 v3 s1 0 fun s2 c2 =>
ixa s n3 1 fun a6 =>
stc w5 a6 (.int .u64 s2) fun w6 =>
bnd (wu (n2 + c2)) fun n5 =>
bnd (wi (x1 + 1)) fun n6 =>
C1 n5 n6 w6) (
J1 c w4)) 0 0 w3) fun (c3 : Int) w7 =>
bnd (wi (x + (b.n : Int))) fun n7 =>
ixa s n7 1 fun a7 =>
stc w7 a7 (.int .u64 c3) fun w8 =>
bnd (wi (x + 1)) fun n8 =>
C0 n8 w8) (
J0 w3)) 0 w2) fun  w9 =>
cl Pg F.limb_Norm [s.v] w9 [.one .slice] fun (s3 : Sl) w10 =>
R (s3.v) w10
def Dc.school_Engine_Mul : Dc := { N := 94, va := [], vb := [], ann := [(2, 0, []), (3, 4, [(37, .one (.int .i64))]), (2, 2, [(10, .one (.int .u64))]), (3, 8, [(10, .one (.int .u64)), (44, .one (.int .i64))])], ext := Xt }
theorem Eq.school_Engine_Mul (e0 : Option Addr) (a : Sl) (b : Sl) (R : Value → TW → Prop) (w : TW) : denF Pg Dc.school_Engine_Mul Go.Proofs.Try.f39 (Go.Proofs.Try.f39.body.getD .skip) [.pointer e0, a.v, b.v] w R = Sh.school_Engine_Mul e0 a b R w := by kernel_rfl
theorem Ct.school_Engine_Mul {e0 : Option Addr} {a : Sl} {b : Sl} {w : TW} {X : Nat → Prop} {K : Tel (fl [.one .slice]) (TW → Prop)} (h : Sh.school_Engine_Mul e0 a b (Rt X [.one .slice] K w) w.here) : Ct Pg F.school_Engine_Mul [.pointer e0, a.v, b.v] w X [.one .slice] K :=
  ct_of_den (D := Dc.school_Engine_Mul) (fn := Go.Proofs.Try.f39) Xt_ok follows_ok (by kernel_rfl) (by kernel_rfl) (by kernel_rfl) (Eq.mpr (Eq.school_Engine_Mul e0 a b _ _) h)

def Sh.school_Engine_Sqr (e0 : Option Addr) (a : Sl) (R : Value → TW → Prop) (w : TW) : Prop :=
nck e0 fun a1 =>
ldc (.ptr) w a1 fun (v : Option Addr) =>
nck v fun a2 =>
bnd (wi ((a.n : Int) + 1)) fun n =>
bnd (wi ((a.n : Int) * n)) fun n1 =>
divK .i64 n1 2 fun n2 =>
cl Pg F.meter_Meter_Spend [.pointer (some a2), .int .i64 n2] w [.one (.int .i64)] fun (_ : Int) w1 =>
bnd (wi (2 * (a.n : Int))) fun n3 =>
mks w1 n3 n3 T.uint64 8 [.int .u64 0] fun s w2 =>
Jn [] (fun J0 =>
Lp [.int .i64] (fun (x : Int) w3 C0 =>
cond (decide ((x : Int) < (a.n : Int))) (
ixa a x 1 fun a3 =>
ldc (.int .u64) w3 a3 fun (v1 : Int) =>
bnd (wi (x + 1)) fun n4 =>
Jn [.int .u64] (fun J1 =>
Lp [.int .u64, .int .i64] (fun (c : Int) (j : Int) w4 C1 =>
cond (decide ((j : Int) < (a.n : Int))) (
ixa a j 1 fun a4 =>
ldc (.int .u64) w4 a4 fun (v2 : Int) =>
cl Pg F.bits_Mul64 [.int .u64 v1, .int .u64 v2] w4 [.one (.int .u64), .one (.int .u64)] fun (r1 : Int) (r2 : Int) w5 =>
add64 r2 c 0 fun s1 c1 =>
bnd (wu (r1 + c1)) fun n5 =>
bnd (wi (x + j)) fun n6 =>
bnd (wi (x + j)) fun n7 =>
ixa s n7 1 fun a5 =>
ldc (.int .u64) w5 a5 fun (v3 : Int) =>
add64 v3 s1 0 fun s2 c2 =>
ixa s n6 1 fun a6 =>
stc w5 a6 (.int .u64 s2) fun w6 =>
bnd (wu (n5 + c2)) fun n8 =>
bnd (wi (j + 1)) fun n9 =>
C1 n8 n9 w6) (
J1 c w4)) 0 n4 w3) fun (c3 : Int) w7 =>
bnd (wi (x + (a.n : Int))) fun n10 =>
ixa s n10 1 fun a7 =>
stc w7 a7 (.int .u64 c3) fun w8 =>
bnd (wi (x + 1)) fun n11 =>
C0 n11 w8) (
J0 w3)) 0 w2) fun  w9 =>
Jn [] (fun J2 =>
Lp [.int .u64, .int .u64, .int .i64] (fun (c4 : Int) (high : Int) (x1 : Int) w10 C2 =>
cond (decide ((x1 : Int) < (a.n : Int))) (
ixa a x1 1 fun a8 =>
ldc (.int .u64) w10 a8 fun (v4 : Int) =>
cl Pg F.bits_Mul64 [.int .u64 v4, .int .u64 v4] w10 [.one (.int .u64), .one (.int .u64)] fun (r3 : Int) (r4 : Int) w11 =>
bnd (wi (2 * x1)) fun n12 =>
ixa s n12 1 fun a9 =>
ldc (.int .u64) w11.drew a9 fun (v5 : Int) =>
bnd (wi (2 * x1)) fun n13 =>
bnd (wi (n13 + 1)) fun n14 =>
ixa s n14 1 fun a10 =>
ldc (.int .u64) w11.drew a10 fun (v6 : Int) =>
shlK .u64 v5 1 fun n15 =>
bnd (bits2 .or .u64 n15 high) fun n16 =>
add64 n16 r4 c4 fun s3 c5 =>
bnd (wi (2 * x1)) fun n17 =>
ixa s n17 1 fun a11 =>
stc w11.drew a11 (.int .u64 s3) fun w12 =>
shlK .u64 v6 1 fun n18 =>
shrK .u64 v5 63 fun n19 =>
bnd (bits2 .or .u64 n18 n19) fun n20 =>
add64 n20 r3 c5 fun s4 c6 =>
bnd (wi (2 * x1)) fun n21 =>
bnd (wi (n21 + 1)) fun n22 =>
ixa s n22 1 fun a12 =>
stc w12 a12 (.int .u64 s4) fun w13 =>
shrK .u64 v6 63 fun n23 =>
bnd (wi (x1 + 1)) fun n24 =>
C2 c6 n23 n24 w13) (
J2 w10)) 0 0 0 w9) fun  w14 =>
cl Pg F.limb_Norm [s.v] w14 [.one .slice] fun (s5 : Sl) w15 =>
R (s5.v) w15
def Dc.school_Engine_Sqr : Dc := { N := 161, va := [], vb := [], ann := [(2, 0, []), (3, 5, [(44, .one (.int .i64))]), (2, 2, [(9, .one (.int .u64))]), (3, 9, [(9, .one (.int .u64)), (10, .one (.int .i64))]), (2, 4, []), (3, 21, [(15, .one (.int .u64)), (16, .one (.int .u64)), (102, .one (.int .i64))])], ext := Xt }
theorem Eq.school_Engine_Sqr (e0 : Option Addr) (a : Sl) (R : Value → TW → Prop) (w : TW) : denF Pg Dc.school_Engine_Sqr Go.Proofs.Try.f44 (Go.Proofs.Try.f44.body.getD .skip) [.pointer e0, a.v] w R = Sh.school_Engine_Sqr e0 a R w := by kernel_rfl
theorem Ct.school_Engine_Sqr {e0 : Option Addr} {a : Sl} {w : TW} {X : Nat → Prop} {K : Tel (fl [.one .slice]) (TW → Prop)} (h : Sh.school_Engine_Sqr e0 a (Rt X [.one .slice] K w) w.here) : Ct Pg F.school_Engine_Sqr [.pointer e0, a.v] w X [.one .slice] K :=
  ct_of_den (D := Dc.school_Engine_Sqr) (fn := Go.Proofs.Try.f44) Xt_ok follows_ok (by kernel_rfl) (by kernel_rfl) (by kernel_rfl) (Eq.mpr (Eq.school_Engine_Sqr e0 a _ _) h)

def Sh.school_New (t : HL [.int .i64, .int .i64, .int .i64, .int .i64, .int .i64, .int .i64, .int .i64, .int .i64, .int .i64, .int .i64, .int .i64]) (R : Value → TW → Prop) (w : TW) : Prop :=
nwv w fun w1 =>
cl Pg F.table_New [.agg #[.int .i64 t.1, .int .i64 t.2.1, .int .i64 t.2.2.1, .int .i64 t.2.2.2.1, .int .i64 t.2.2.2.2.1, .int .i64 t.2.2.2.2.2.1, .int .i64 t.2.2.2.2.2.2.1, .int .i64 t.2.2.2.2.2.2.2.1, .int .i64 t.2.2.2.2.2.2.2.2.1, .int .i64 t.2.2.2.2.2.2.2.2.2.1, .int .i64 t.2.2.2.2.2.2.2.2.2.2.1]] w1 [.one .ptr] fun (p : Option Addr) w2 =>
nwb w2 [.pointer p] T.school_Engine fun b w3 =>
R (.pointer (some ⟨b, 0, none⟩)) w3
def Dc.school_New : Dc := { N := 7, va := [(1, 7)], vb := [(7, 11)], ann := [], ext := Xt }
theorem Eq.school_New (t : HL [.int .i64, .int .i64, .int .i64, .int .i64, .int .i64, .int .i64, .int .i64, .int .i64, .int .i64, .int .i64, .int .i64]) (R : Value → TW → Prop) (w : TW) : denF Pg Dc.school_New Go.Proofs.Try.f67 (Go.Proofs.Try.f67.body.getD .skip) [.agg (encs [.int .i64, .int .i64, .int .i64, .int .i64, .int .i64, .int .i64, .int .i64, .int .i64, .int .i64, .int .i64, .int .i64] t).toArray] w R = Sh.school_New t R w := by kernel_rfl
theorem Ct.school_New {t : HL [.int .i64, .int .i64, .int .i64, .int .i64, .int .i64, .int .i64, .int .i64, .int .i64, .int .i64, .int .i64, .int .i64]} {w : TW} {X : Nat → Prop} {K : Tel (fl [.one .ptr]) (TW → Prop)} (h : Sh.school_New t (Rt X [.one .ptr] K w) w.here) : Ct Pg F.school_New [.agg (encs [.int .i64, .int .i64, .int .i64, .int .i64, .int .i64, .int .i64, .int .i64, .int .i64, .int .i64, .int .i64, .int .i64] t).toArray] w X [.one .ptr] K :=
  ct_of_den (D := Dc.school_New) (fn := Go.Proofs.Try.f67) Xt_ok follows_ok (by kernel_rfl) (by kernel_rfl) (by kernel_rfl) (Eq.mpr (Eq.school_New t _ _) h)
end Go.Proofs.Ytdkhilllajdnpaa.Zg
end

section
set_option maxRecDepth 100000
namespace Go.Proofs.Ytdkhilllajdnpaa.Zg
def Sh.table_New (t : HL [.int .i64, .int .i64, .int .i64, .int .i64, .int .i64, .int .i64, .int .i64, .int .i64, .int .i64, .int .i64, .int .i64]) (R : Value → TW → Prop) (w : TW) : Prop :=
nwv w fun w1 =>
cl Pg F.table_Clamp [.agg #[.int .i64 t.1, .int .i64 t.2.1, .int .i64 t.2.2.1, .int .i64 t.2.2.2.1, .int .i64 t.2.2.2.2.1, .int .i64 t.2.2.2.2.2.1, .int .i64 t.2.2.2.2.2.2.1, .int .i64 t.2.2.2.2.2.2.2.1, .int .i64 t.2.2.2.2.2.2.2.2.1, .int .i64 t.2.2.2.2.2.2.2.2.2.1, .int .i64 t.2.2.2.2.2.2.2.2.2.2.1]] w1 [.agg [.int .i64, .int .i64, .int .i64, .int .i64, .int .i64, .int .i64, .int .i64, .int .i64, .int .i64, .int .i64, .int .i64]] fun (r : Int) (r1 : Int) (r2 : Int) (r3 : Int) (r4 : Int) (r5 : Int) (r6 : Int) (r7 : Int) (r8 : Int) (r9 : Int) (r10 : Int) w2 =>
nwb w2 [.int .i64 0, .int .i64 0, .int .i64 0, .int .i64 r, .int .i64 r1, .int .i64 r2, .int .i64 r3, .int .i64 r4, .int .i64 r5, .int .i64 r6, .int .i64 r7, .int .i64 r8, .int .i64 r9, .int .i64 r10] T.table_Tune fun b w3 =>
R (.pointer (some ⟨b, 0, none⟩)) w3
def Dc.table_New : Dc := { N := 7, va := [(1, 7)], vb := [(7, 11)], ann := [], ext := Xt }
theorem Eq.table_New (t : HL [.int .i64, .int .i64, .int .i64, .int .i64, .int .i64, .int .i64, .int .i64, .int .i64, .int .i64, .int .i64, .int .i64]) (R : Value → TW → Prop) (w : TW) : denF Pg Dc.table_New Go.Proofs.Try.f86 (Go.Proofs.Try.f86.body.getD .skip) [.agg (encs [.int .i64, .int .i64, .int .i64, .int .i64, .int .i64, .int .i64, .int .i64, .int .i64, .int .i64, .int .i64, .int .i64] t).toArray] w R = Sh.table_New t R w := by kernel_rfl
theorem Ct.table_New {t : HL [.int .i64, .int .i64, .int .i64, .int .i64, .int .i64, .int .i64, .int .i64, .int .i64, .int .i64, .int .i64, .int .i64]} {w : TW} {X : Nat → Prop} {K : Tel (fl [.one .ptr]) (TW → Prop)} (h : Sh.table_New t (Rt X [.one .ptr] K w) w.here) : Ct Pg F.table_New [.agg (encs [.int .i64, .int .i64, .int .i64, .int .i64, .int .i64, .int .i64, .int .i64, .int .i64, .int .i64, .int .i64, .int .i64] t).toArray] w X [.one .ptr] K :=
  ct_of_den (D := Dc.table_New) (fn := Go.Proofs.Try.f86) Xt_ok follows_ok (by kernel_rfl) (by kernel_rfl) (by kernel_rfl) (Eq.mpr (Eq.table_New t _ _) h)

def Sh.table_Clamp (t : HL [.int .i64, .int .i64, .int .i64, .int .i64, .int .i64, .int .i64, .int .i64, .int .i64, .int .i64, .int .i64, .int .i64]) (R : Value → TW → Prop) (w : TW) : Prop :=
nwv w fun w1 =>
nwv w1 fun w2 =>
cl Pg F.table_within [.int .i64 t.1, .int .i64 4, .int .i64 64] w2.drew [.one (.int .i64)] fun (r : Int) w3 =>
cl Pg F.table_within [.int .i64 t.2.1, .int .i64 12, .int .i64 8192] w3 [.one (.int .i64)] fun (r1 : Int) w4 =>
cl Pg F.table_within [.int .i64 t.2.2.1, .int .i64 64, .int .i64 16384] w4 [.one (.int .i64)] fun (r2 : Int) w5 =>
cl Pg F.table_within [.int .i64 t.2.2.2.1, .int .i64 4, .int .i64 1024] w5 [.one (.int .i64)] fun (r3 : Int) w6 =>
cl Pg F.table_within [.int .i64 t.2.2.2.2.1, .int .i64 4, .int .i64 4096] w6 [.one (.int .i64)] fun (r4 : Int) w7 =>
cl Pg F.table_within [.int .i64 t.2.2.2.2.2.1, .int .i64 2, .int .i64 1024] w7 [.one (.int .i64)] fun (r5 : Int) w8 =>
cl Pg F.table_within [.int .i64 t.2.2.2.2.2.2.1, .int .i64 2, .int .i64 1024] w8 [.one (.int .i64)] fun (r6 : Int) w9 =>
cl Pg F.table_within [.int .i64 t.2.2.2.2.2.2.2.1, .int .i64 4, .int .i64 256] w9 [.one (.int .i64)] fun (r7 : Int) w10 =>
cl Pg F.table_within [.int .i64 t.2.2.2.2.2.2.2.2.1, .int .i64 4, .int .i64 1024] w10 [.one (.int .i64)] fun (r8 : Int) w11 =>
cl Pg F.table_within [.int .i64 t.2.2.2.2.2.2.2.2.2.1, .int .i64 2, .int .i64 1024] w11 [.one (.int .i64)] fun (r9 : Int) w12 =>
cl Pg F.table_within [.int .i64 t.2.2.2.2.2.2.2.2.2.2.1, .int .i64 2, .int .i64 256] w12 [.one (.int .i64)] fun (r10 : Int) w13 =>
nwv w13 fun w14 =>
R (.agg #[.int .i64 r, .int .i64 r1, .int .i64 r2, .int .i64 r3, .int .i64 r4, .int .i64 r5, .int .i64 r6, .int .i64 r7, .int .i64 r8, .int .i64 r9, .int .i64 r10]) w14
def Dc.table_Clamp : Dc := { N := 37, va := [(1, 37), (2, 48)], vb := [(37, 11), (48, 11)], ann := [], ext := Xt }
theorem Eq.table_Clamp (t : HL [.int .i64, .int .i64, .int .i64, .int .i64, .int .i64, .int .i64, .int .i64, .int .i64, .int .i64, .int .i64, .int .i64]) (R : Value → TW → Prop) (w : TW) : denF Pg Dc.table_Clamp Go.Proofs.Try.f95 (Go.Proofs.Try.f95.body.getD .skip) [.agg (encs [.int .i64, .int .i64, .int .i64, .int .i64, .int .i64, .int .i64, .int .i64, .int .i64, .int .i64, .int .i64, .int .i64] t).toArray] w R = Sh.table_Clamp t R w := by kernel_rfl
theorem Ct.table_Clamp {t : HL [.int .i64, .int .i64, .int .i64, .int .i64, .int .i64, .int .i64, .int .i64, .int .i64, .int .i64, .int .i64, .int .i64]} {w : TW} {X : Nat → Prop} {K : Tel (fl [.agg [.int .i64, .int .i64, .int .i64, .int .i64, .int .i64, .int .i64, .int .i64, .int .i64, .int .i64, .int .i64, .int .i64]]) (TW → Prop)} (h : Sh.table_Clamp t (Rt X [.agg [.int .i64, .int .i64, .int .i64, .int .i64, .int .i64, .int .i64, .int .i64, .int .i64, .int .i64, .int .i64, .int .i64]] K w) w.here) : Ct Pg F.table_Clamp [.agg (encs [.int .i64, .int .i64, .int .i64, .int .i64, .int .i64, .int .i64, .int .i64, .int .i64, .int .i64, .int .i64, .int .i64] t).toArray] w X [.agg [.int .i64, .int .i64, .int .i64, .int .i64, .int .i64, .int .i64, .int .i64, .int .i64, .int .i64, .int .i64, .int .i64]] K :=
  ct_of_den (D := Dc.table_Clamp) (fn := Go.Proofs.Try.f95) Xt_ok follows_ok (by kernel_rfl) (by kernel_rfl) (by kernel_rfl) (Eq.mpr (Eq.table_Clamp t _ _) h)

def Sh.table_within (n : Int) (least : Int) (most : Int) (R : Value → TW → Prop) (w : TW) : Prop :=
bnd (if (most : Int) < n then most else n) fun n1 =>
bnd (if (n1 : Int) > least then n1 else least) fun n2 =>
R (.int .i64 n2) w
def Dc.table_within : Dc := { N := 12, va := [], vb := [], ann := [], ext := Xt }
theorem Eq.table_within (n : Int) (least : Int) (most : Int) (R : Value → TW → Prop) (w : TW) : denF Pg Dc.table_within Go.Proofs.Try.f99 (Go.Proofs.Try.f99.body.getD .skip) [.int .i64 n, .int .i64 least, .int .i64 most] w R = Sh.table_within n least most R w := by kernel_rfl
theorem Ct.table_within {n : Int} {least : Int} {most : Int} {w : TW} {X : Nat → Prop} {K : Tel (fl [.one (.int .i64)]) (TW → Prop)} (h : Sh.table_within n least most (Rt X [.one (.int .i64)] K w) w.here) : Ct Pg F.table_within [.int .i64 n, .int .i64 least, .int .i64 most] w X [.one (.int .i64)] K :=
  ct_of_den (D := Dc.table_within) (fn := Go.Proofs.Try.f99) Xt_ok follows_ok (by kernel_rfl) (by kernel_rfl) (by kernel_rfl) (Eq.mpr (Eq.table_within n least most _ _) h)
end Go.Proofs.Ytdkhilllajdnpaa.Zg
end

section
set_option maxRecDepth 100000
namespace Go.Proofs.Ytdkhilllajdnpaa.Zg
def Sh.toom_Third (a : Sl) (R : Value → TW → Prop) (w : TW) : Prop :=
cl Pg F.limb_Norm [a.v] w [.one .slice] fun (s : Sl) w1 =>
Jn [.int .u64] (fun J0 =>
Lp [.int .u64, .int .i64] (fun (c : Int) (x : Int) w2 C0 =>
cond (decide ((x : Int) < (s.n : Int))) (
ixa s x 1 fun a1 =>
ldc (.int .u64) w2 a1 fun (v : Int) =>
sub64 v c 0 fun s1 c1 =>
bnd (wu (s1 * 12297829382473034411)) fun n =>
ixa s x 1 fun a2 =>
stc w2 a2 (.int .u64 n) fun w3 =>
cl Pg F.bits_Mul64 [.int .u64 n, .int .u64 3] w3 [.one (.int .u64), .one (.int .u64)] fun (r : Int) (_ : Int) w4 =>
bnd (wu (r + c1)) fun n1 =>
bnd (wi (x + 1)) fun n2 =>
C0 n1 n2 w4) (
J0 c w2)) 0 0 w1) fun (c2 : Int) w5 =>
cond ((c2 : Int) != 0) (
R (.tuple #[.slice none 0 0, .bool false]) w5) (
cl Pg F.limb_Norm [s.v] w5 [.one .slice] fun (s2 : Sl) w6 =>
R (.tuple #[s2.v, .bool true]) w6)
def Dc.toom_Third : Dc := { N := 46, va := [], vb := [], ann := [(2, 0, [(4, .one (.int .u64))]), (3, 4, [(4, .one (.int .u64)), (16, .one (.int .i64))])], ext := Xt }
theorem Eq.toom_Third (a : Sl) (R : Value → TW → Prop) (w : TW) : denF Pg Dc.toom_Third Go.Proofs.Try.f17 (Go.Proofs.Try.f17.body.getD .skip) [a.v] w R = Sh.toom_Third a R w := by kernel_rfl
theorem Ct.toom_Third {a : Sl} {w : TW} {X : Nat → Prop} {K : Tel (fl [.one .slice, .one .bool]) (TW → Prop)} (h : Sh.toom_Third a (Rt X [.one .slice, .one .bool] K w) w.here) : Ct Pg F.toom_Third [a.v] w X [.one .slice, .one .bool] K :=
  ct_of_den (D := Dc.toom_Third) (fn := Go.Proofs.Try.f17) Xt_ok follows_ok (by kernel_rfl) (by kernel_rfl) (by kernel_rfl) (Eq.mpr (Eq.toom_Third a _ _) h)

def Sh.toom_Points (a : Sl) (k : Int) (R : Value → TW → Prop) (w : TW) : Prop :=
nwv w fun w1 =>
nwv w1 fun w2 =>
nwv w2 fun w3 =>
nwv w3 fun w4 =>
nwv w4 fun w5 =>
bnd (if (16384 : Int) < k then 16384 else k) fun n =>
bnd (if (n : Int) > 1 then n else 1) fun n1 =>
cl Pg F.limb_Norm [a.v] w5 [.one .slice] fun (s : Sl) w6 =>
cl Pg F.toom_part [s.v, .int .i64 0, .int .i64 n1] w6 [.one .slice] fun (s1 : Sl) w7 =>
bnd (wi (2 * n1)) fun n2 =>
cl Pg F.toom_part [s.v, .int .i64 n1, .int .i64 n2] w7 [.one .slice] fun (s2 : Sl) w8 =>
bnd (wi (2 * n1)) fun n3 =>
cl Pg F.toom_part [s.v, .int .i64 n3, .int .i64 (s.n : Int)] w8 [.one .slice] fun (s3 : Sl) w9 =>
cl Pg F.limb_Add [s1.v, s3.v] w9 [.one .slice] fun (s4 : Sl) w10 =>
cl Pg F.limb_Norm [s1.v] w10 [.one .slice] fun (s5 : Sl) w11 =>
nwv w11 fun w12 =>
cl Pg F.limb_Add [s4.v, s2.v] w12 [.one .slice] fun (s6 : Sl) w13 =>
nwv w13 fun w14 =>
cl Pg F.toom_less [s4.v, s2.v] w14 [.agg [.slice, .bool]] fun (r : Sl) (r1 : Bool) w15 =>
nwv w15 fun w16 =>
cl Pg F.limb_Shl [s2.v, .int .i64 1] w16 [.one .slice] fun (s7 : Sl) w17 =>
cl Pg F.limb_Shl [s3.v, .int .i64 2] w17 [.one .slice] fun (s8 : Sl) w18 =>
nwb w18 [s1.v, s7.v, s8.v] T.api_Nat fun b w19 =>
cl Pg F.limb_Sum [.slice (some ⟨b, 0, none⟩) 3 3] w19 [.one .slice] fun (s9 : Sl) w20 =>
nwv w20 fun w21 =>
cl Pg F.limb_Norm [s3.v] w21 [.one .slice] fun (s10 : Sl) w22 =>
nwv w22 fun w23 =>
nwv w23.drew fun w24 =>
nwv w24 fun w25 =>
nwv w25 fun w26 =>
nwv w26 fun w27 =>
nwv w27 fun w28 =>
R (.tuple #[.agg #[s5.v, .bool false], .agg #[s6.v, .bool false], .agg #[r.v, .bool r1], .agg #[s9.v, .bool false], .agg #[s10.v, .bool false]]) w28
def Dc.toom_Points : Dc := { N := 61, va := [(4, 61), (5, 63), (6, 65), (7, 67), (8, 69)], vb := [(61, 2), (63, 2), (65, 2), (67, 2), (69, 2)], ann := [], ext := Xt }
theorem Eq.toom_Points (a : Sl) (k : Int) (R : Value → TW → Prop) (w : TW) : denF Pg Dc.toom_Points Go.Proofs.Try.f22 (Go.Proofs.Try.f22.body.getD .skip) [a.v, .int .i64 k] w R = Sh.toom_Points a k R w := by kernel_rfl
theorem Ct.toom_Points {a : Sl} {k : Int} {w : TW} {X : Nat → Prop} {K : Tel (fl [.agg [.slice, .bool], .agg [.slice, .bool], .agg [.slice, .bool], .agg [.slice, .bool], .agg [.slice, .bool]]) (TW → Prop)} (h : Sh.toom_Points a k (Rt X [.agg [.slice, .bool], .agg [.slice, .bool], .agg [.slice, .bool], .agg [.slice, .bool], .agg [.slice, .bool]] K w) w.here) : Ct Pg F.toom_Points [a.v, .int .i64 k] w X [.agg [.slice, .bool], .agg [.slice, .bool], .agg [.slice, .bool], .agg [.slice, .bool], .agg [.slice, .bool]] K :=
  ct_of_den (D := Dc.toom_Points) (fn := Go.Proofs.Try.f22) Xt_ok follows_ok (by kernel_rfl) (by kernel_rfl) (by kernel_rfl) (Eq.mpr (Eq.toom_Points a k _ _) h)

def Sh.toom_New (t : HL [.int .i64, .int .i64, .int .i64, .int .i64, .int .i64, .int .i64, .int .i64, .int .i64, .int .i64, .int .i64, .int .i64]) (R : Value → TW → Prop) (w : TW) : Prop :=
nwv w fun w1 =>
cl Pg F.kara_New [.agg #[.int .i64 t.1, .int .i64 t.2.1, .int .i64 t.2.2.1, .int .i64 t.2.2.2.1, .int .i64 t.2.2.2.2.1, .int .i64 t.2.2.2.2.2.1, .int .i64 t.2.2.2.2.2.2.1, .int .i64 t.2.2.2.2.2.2.2.1, .int .i64 t.2.2.2.2.2.2.2.2.1, .int .i64 t.2.2.2.2.2.2.2.2.2.1, .int .i64 t.2.2.2.2.2.2.2.2.2.2.1]] w1 [.one .ptr] fun (p : Option Addr) w2 =>
nwb w2 [.pointer p] T.toom_Engine fun b w3 =>
R (.pointer (some ⟨b, 0, none⟩)) w3
def Dc.toom_New : Dc := { N := 7, va := [(1, 7)], vb := [(7, 11)], ann := [], ext := Xt }
theorem Eq.toom_New (t : HL [.int .i64, .int .i64, .int .i64, .int .i64, .int .i64, .int .i64, .int .i64, .int .i64, .int .i64, .int .i64, .int .i64]) (R : Value → TW → Prop) (w : TW) : denF Pg Dc.toom_New Go.Proofs.Try.f38 (Go.Proofs.Try.f38.body.getD .skip) [.agg (encs [.int .i64, .int .i64, .int .i64, .int .i64, .int .i64, .int .i64, .int .i64, .int .i64, .int .i64, .int .i64, .int .i64] t).toArray] w R = Sh.toom_New t R w := by kernel_rfl
theorem Ct.toom_New {t : HL [.int .i64, .int .i64, .int .i64, .int .i64, .int .i64, .int .i64, .int .i64, .int .i64, .int .i64, .int .i64, .int .i64]} {w : TW} {X : Nat → Prop} {K : Tel (fl [.one .ptr]) (TW → Prop)} (h : Sh.toom_New t (Rt X [.one .ptr] K w) w.here) : Ct Pg F.toom_New [.agg (encs [.int .i64, .int .i64, .int .i64, .int .i64, .int .i64, .int .i64, .int .i64, .int .i64, .int .i64, .int .i64, .int .i64] t).toArray] w X [.one .ptr] K :=
  ct_of_den (D := Dc.toom_New) (fn := Go.Proofs.Try.f38) Xt_ok follows_ok (by kernel_rfl) (by kernel_rfl) (by kernel_rfl) (Eq.mpr (Eq.toom_New t _ _) h)

def Sh.toom_part (a : Sl) (from0 : Int) (to : Int) (R : Value → TW → Prop) (w : TW) : Prop :=
cond (decide ((from0 : Int) ≥ (a.n : Int))) (
R (.slice none 0 0) w) (
bnd (if ((a.n : Int) : Int) < to then (a.n : Int) else to) fun n =>
slc a from0 n 1 fun s =>
R (s.v) w)
def Dc.toom_part : Dc := { N := 18, va := [], vb := [], ann := [], ext := Xt }
theorem Eq.toom_part (a : Sl) (from0 : Int) (to : Int) (R : Value → TW → Prop) (w : TW) : denF Pg Dc.toom_part Go.Proofs.Try.f57 (Go.Proofs.Try.f57.body.getD .skip) [a.v, .int .i64 from0, .int .i64 to] w R = Sh.toom_part a from0 to R w := by kernel_rfl
theorem Ct.toom_part {a : Sl} {from0 : Int} {to : Int} {w : TW} {X : Nat → Prop} {K : Tel (fl [.one .slice]) (TW → Prop)} (h : Sh.toom_part a from0 to (Rt X [.one .slice] K w) w.here) : Ct Pg F.toom_part [a.v, .int .i64 from0, .int .i64 to] w X [.one .slice] K :=
  ct_of_den (D := Dc.toom_part) (fn := Go.Proofs.Try.f57) Xt_ok follows_ok (by kernel_rfl) (by kernel_rfl) (by kernel_rfl) (Eq.mpr (Eq.toom_part a from0 to _ _) h)

def Sh.toom_less (a : Sl) (b : Sl) (R : Value → TW → Prop) (w : TW) : Prop :=
nwv w fun w1 =>
cl Pg F.limb_Sub [a.v, b.v] w1 [.one .slice, .one .bool] fun (s : Sl) (ok : Bool) w2 =>
cond ok (
nwv w2 fun w3 =>
R (.agg #[s.v, .bool false]) w3) (
cl Pg F.limb_Sub [b.v, a.v] w2 [.one .slice, .one .bool] fun (s1 : Sl) (_ : Bool) w4 =>
nwv w4 fun w5 =>
R (.agg #[s1.v, .bool true]) w5)
def Dc.toom_less : Dc := { N := 26, va := [(4, 26)], vb := [(26, 2)], ann := [], ext := Xt }
theorem Eq.toom_less (a : Sl) (b : Sl) (R : Value → TW → Prop) (w : TW) : denF Pg Dc.toom_less Go.Proofs.Try.f59 (Go.Proofs.Try.f59.body.getD .skip) [a.v, b.v] w R = Sh.toom_less a b R w := by kernel_rfl
theorem Ct.toom_less {a : Sl} {b : Sl} {w : TW} {X : Nat → Prop} {K : Tel (fl [.agg [.slice, .bool]]) (TW → Prop)} (h : Sh.toom_less a b (Rt X [.agg [.slice, .bool]] K w) w.here) : Ct Pg F.toom_less [a.v, b.v] w X [.agg [.slice, .bool]] K :=
  ct_of_den (D := Dc.toom_less) (fn := Go.Proofs.Try.f59) Xt_ok follows_ok (by kernel_rfl) (by kernel_rfl) (by kernel_rfl) (Eq.mpr (Eq.toom_less a b _ _) h)

def Sh.toom_Engine_Toom (e0 : Option Addr) (a : Sl) (b : Sl) (inner : Value) (R : Value → TW → Prop) (w : TW) : Prop :=
Jn [.slice, .slice] (fun J0 =>
cond (decide (((a.n : Int) : Int) < (b.n : Int))) (
J0 b a w) (
J0 a b w)) fun (a1 : Sl) (b1 : Sl) w1 =>
bnd (wi ((a1.n : Int) + 2)) fun n =>
divK .i64 n 3 fun n1 =>
bnd (wi (2 * n1)) fun n2 =>
cond (decide (((b1.n : Int) : Int) ≤ n2)) (
R (.tuple #[.slice none 0 0, .bool false]) w1) (
nck e0 fun a2 =>
ldc (.ptr) w1 a2 fun (v : Option Addr) =>
nck v fun a3 =>
ldc (.ptr) w1 a3 fun (v1 : Option Addr) =>
nck v1 fun a4 =>
ldc (.ptr) w1 a4 fun (v2 : Option Addr) =>
nck v2 fun a5 =>
cl Pg F.meter_Meter_Enter [.pointer (some a5)] w1 [.one (.int .i64)] fun (_ : Int) w2 =>
cl Pg F.toom_Points [a1.v, .int .i64 n1] w2 [.agg [.slice, .bool], .agg [.slice, .bool], .agg [.slice, .bool], .agg [.slice, .bool], .agg [.slice, .bool]] fun (r1 : Sl) (_ : Bool) (r3 : Sl) (_ : Bool) (r5 : Sl) (r6 : Bool) (r7 : Sl) (_ : Bool) (r9 : Sl) (_ : Bool) w3 =>
nwv w3 fun w4 =>
nwv w4 fun w5 =>
nwv w5 fun w6 =>
nwv w6 fun w7 =>
nwv w7 fun w8 =>
nwv w8 fun w9 =>
nwv w9 fun w10 =>
nwv w10 fun w11 =>
nwv w11 fun w12 =>
nwv w12 fun w13 =>
cl Pg F.toom_Points [b1.v, .int .i64 n1] w13 [.agg [.slice, .bool], .agg [.slice, .bool], .agg [.slice, .bool], .agg [.slice, .bool], .agg [.slice, .bool]] fun (r11 : Sl) (_ : Bool) (r13 : Sl) (_ : Bool) (r15 : Sl) (r16 : Bool) (r17 : Sl) (_ : Bool) (r19 : Sl) (_ : Bool) w14 =>
nwv w14 fun w15 =>
nwv w15 fun w16 =>
nwv w16 fun w17 =>
nwv w17 fun w18 =>
nwv w18 fun w19 =>
nwv w19 fun w20 =>
nwv w20 fun w21 =>
nwv w21 fun w22 =>
nwv w22 fun w23 =>
nwv w23 fun w24 =>
cl Pg F.toom_wide [r1.v, .int .i64 n1] w24.drew [.one .slice] fun (s : Sl) w25 =>
cl Pg F.toom_wide [r11.v, .int .i64 n1] w25 [.one .slice] fun (s1 : Sl) w26 =>
clv Pg inner [s.v, s1.v] w26 [.one .slice] fun (s2 : Sl) w27 =>
bnd (wi (n1 + 1)) fun n3 =>
bnd (wi (n1 + 1)) fun n4 =>
cl Pg F.toom_wide [r3.v, .int .i64 n3] w27.drew [.one .slice] fun (s3 : Sl) w28 =>
cl Pg F.toom_wide [r13.v, .int .i64 n4] w28 [.one .slice] fun (s4 : Sl) w29 =>
clv Pg inner [s3.v, s4.v] w29 [.one .slice] fun (s5 : Sl) w30 =>
bnd (wi (n1 + 1)) fun n5 =>
bnd (wi (n1 + 1)) fun n6 =>
cl Pg F.toom_wide [r5.v, .int .i64 n5] w30.drew [.one .slice] fun (s6 : Sl) w31 =>
cl Pg F.toom_wide [r15.v, .int .i64 n6] w31 [.one .slice] fun (s7 : Sl) w32 =>
clv Pg inner [s6.v, s7.v] w32 [.one .slice] fun (s8 : Sl) w33 =>
bnd (wi (n1 + 1)) fun n7 =>
bnd (wi (n1 + 1)) fun n8 =>
cl Pg F.toom_wide [r7.v, .int .i64 n7] w33.drew [.one .slice] fun (s9 : Sl) w34 =>
cl Pg F.toom_wide [r17.v, .int .i64 n8] w34 [.one .slice] fun (s10 : Sl) w35 =>
clv Pg inner [s9.v, s10.v] w35 [.one .slice] fun (s11 : Sl) w36 =>
bnd (wi (2 * n1)) fun n9 =>
bnd (wi ((a1.n : Int) - n9)) fun n10 =>
bnd (wi (2 * n1)) fun n11 =>
bnd (wi ((b1.n : Int) - n11)) fun n12 =>
cl Pg F.toom_wide [r9.v, .int .i64 n10] w36.drew [.one .slice] fun (s12 : Sl) w37 =>
cl Pg F.toom_wide [r19.v, .int .i64 n12] w37 [.one .slice] fun (s13 : Sl) w38 =>
clv Pg inner [s12.v, s13.v] w38 [.one .slice] fun (s14 : Sl) w39 =>
nck e0 fun a6 =>
ldc (.ptr) w39 a6 fun (v3 : Option Addr) =>
nck v3 fun a7 =>
ldc (.ptr) w39 a7 fun (v4 : Option Addr) =>
nck v4 fun a8 =>
ldc (.ptr) w39 a8 fun (v5 : Option Addr) =>
nck v5 fun a9 =>
cl Pg F.meter_Meter_Leave [.pointer (some a9)] w39 [.one (.int .i64)] fun (_ : Int) w40 =>
cl Pg F.toom_joined [.int .i64 n1, s2.v, s5.v, s8.v, s11.v, s14.v, .bool (!(r6 == r16))] w40 [.one .slice] fun (s15 : Sl) w41 =>
R (.tuple #[s15.v, .bool true]) w41)
def Dc.toom_Engine_Toom : Dc := { N := 164, va := [(13, 164), (14, 166), (15, 168), (16, 170), (17, 172), (18, 174), (19, 176), (20, 178), (21, 180), (22, 182)], vb := [(164, 2), (166, 2), (168, 2), (170, 2), (172, 2), (174, 2), (176, 2), (178, 2), (180, 2), (182, 2)], ann := [(1, 2, [(1, .one .slice), (2, .one .slice)])], ext := Xt }
theorem Eq.toom_Engine_Toom (e0 : Option Addr) (a : Sl) (b : Sl) (inner : Value) (R : Value → TW → Prop) (w : TW) : denF Pg Dc.toom_Engine_Toom Go.Proofs.Try.f77 (Go.Proofs.Try.f77.body.getD .skip) [.pointer e0, a.v, b.v, inner] w R = Sh.toom_Engine_Toom e0 a b inner R w := by kernel_rfl
theorem Ct.toom_Engine_Toom {e0 : Option Addr} {a : Sl} {b : Sl} {inner : Value} {w : TW} {X : Nat → Prop} {K : Tel (fl [.one .slice, .one .bool]) (TW → Prop)} (h : Sh.toom_Engine_Toom e0 a b inner (Rt X [.one .slice, .one .bool] K w) w.here) : Ct Pg F.toom_Engine_Toom [.pointer e0, a.v, b.v, inner] w X [.one .slice, .one .bool] K :=
  ct_of_den (D := Dc.toom_Engine_Toom) (fn := Go.Proofs.Try.f77) Xt_ok follows_ok (by kernel_rfl) (by kernel_rfl) (by kernel_rfl) (Eq.mpr (Eq.toom_Engine_Toom e0 a b inner _ _) h)

def Sh.toom_Engine_ToomSqr (e0 : Option Addr) (a : Sl) (inner : Value) (R : Value → TW → Prop) (w : TW) : Prop :=
bnd (wi ((a.n : Int) + 2)) fun n =>
divK .i64 n 3 fun n1 =>
bnd (wi (2 * n1)) fun n2 =>
cond (decide (((a.n : Int) : Int) ≤ n2)) (
R (.tuple #[.slice none 0 0, .bool false]) w) (
nck e0 fun a1 =>
ldc (.ptr) w a1 fun (v : Option Addr) =>
nck v fun a2 =>
ldc (.ptr) w a2 fun (v1 : Option Addr) =>
nck v1 fun a3 =>
ldc (.ptr) w a3 fun (v2 : Option Addr) =>
nck v2 fun a4 =>
cl Pg F.meter_Meter_Enter [.pointer (some a4)] w [.one (.int .i64)] fun (_ : Int) w1 =>
cl Pg F.toom_Points [a.v, .int .i64 n1] w1 [.agg [.slice, .bool], .agg [.slice, .bool], .agg [.slice, .bool], .agg [.slice, .bool], .agg [.slice, .bool]] fun (r1 : Sl) (_ : Bool) (r3 : Sl) (_ : Bool) (r5 : Sl) (_ : Bool) (r7 : Sl) (_ : Bool) (r9 : Sl) (_ : Bool) w2 =>
nwv w2 fun w3 =>
nwv w3 fun w4 =>
nwv w4 fun w5 =>
nwv w5 fun w6 =>
nwv w6 fun w7 =>
nwv w7 fun w8 =>
nwv w8 fun w9 =>
nwv w9 fun w10 =>
nwv w10 fun w11 =>
nwv w11 fun w12 =>
cl Pg F.toom_wide [r1.v, .int .i64 n1] w12 [.one .slice] fun (s : Sl) w13 =>
clv Pg inner [s.v] w13 [.one .slice] fun (s1 : Sl) w14 =>
bnd (wi (n1 + 1)) fun n3 =>
cl Pg F.toom_wide [r3.v, .int .i64 n3] w14 [.one .slice] fun (s2 : Sl) w15 =>
clv Pg inner [s2.v] w15 [.one .slice] fun (s3 : Sl) w16 =>
bnd (wi (n1 + 1)) fun n4 =>
cl Pg F.toom_wide [r5.v, .int .i64 n4] w16 [.one .slice] fun (s4 : Sl) w17 =>
clv Pg inner [s4.v] w17 [.one .slice] fun (s5 : Sl) w18 =>
bnd (wi (n1 + 1)) fun n5 =>
cl Pg F.toom_wide [r7.v, .int .i64 n5] w18 [.one .slice] fun (s6 : Sl) w19 =>
clv Pg inner [s6.v] w19 [.one .slice] fun (s7 : Sl) w20 =>
bnd (wi (2 * n1)) fun n6 =>
bnd (wi ((a.n : Int) - n6)) fun n7 =>
cl Pg F.toom_wide [r9.v, .int .i64 n7] w20 [.one .slice] fun (s8 : Sl) w21 =>
clv Pg inner [s8.v] w21 [.one .slice] fun (s9 : Sl) w22 =>
nck e0 fun a5 =>
ldc (.ptr) w22 a5 fun (v3 : Option Addr) =>
nck v3 fun a6 =>
ldc (.ptr) w22 a6 fun (v4 : Option Addr) =>
nck v4 fun a7 =>
ldc (.ptr) w22 a7 fun (v5 : Option Addr) =>
nck v5 fun a8 =>
cl Pg F.meter_Meter_Leave [.pointer (some a8)] w22 [.one (.int .i64)] fun (_ : Int) w23 =>
cl Pg F.toom_joined [.int .i64 n1, s1.v, s3.v, s5.v, s7.v, s9.v, .bool false] w23 [.one .slice] fun (s10 : Sl) w24 =>
R (.tuple #[s10.v, .bool true]) w24)
def Dc.toom_Engine_ToomSqr : Dc := { N := 107, va := [(10, 107), (11, 109), (12, 111), (13, 113), (14, 115)], vb := [(107, 2), (109, 2), (111, 2), (113, 2), (115, 2)], ann := [], ext := Xt }
theorem Eq.toom_Engine_ToomSqr (e0 : Option Addr) (a : Sl) (inner : Value) (R : Value → TW → Prop) (w : TW) : denF Pg Dc.toom_Engine_ToomSqr Go.Proofs.Try.f80 (Go.Proofs.Try.f80.body.getD .skip) [.pointer e0, a.v, inner] w R = Sh.toom_Engine_ToomSqr e0 a inner R w := by kernel_rfl
theorem Ct.toom_Engine_ToomSqr {e0 : Option Addr} {a : Sl} {inner : Value} {w : TW} {X : Nat → Prop} {K : Tel (fl [.one .slice, .one .bool]) (TW → Prop)} (h : Sh.toom_Engine_ToomSqr e0 a inner (Rt X [.one .slice, .one .bool] K w) w.here) : Ct Pg F.toom_Engine_ToomSqr [.pointer e0, a.v, inner] w X [.one .slice, .one .bool] K :=
  ct_of_den (D := Dc.toom_Engine_ToomSqr) (fn := Go.Proofs.Try.f80) Xt_ok follows_ok (by kernel_rfl) (by kernel_rfl) (by kernel_rfl) (Eq.mpr (Eq.toom_Engine_ToomSqr e0 a inner _ _) h)

def Sh.toom_wide (a : Sl) (n : Int) (R : Value → TW → Prop) (w : TW) : Prop :=
mks w n n T.uint64 8 [.int .u64 0] fun s w1 =>
cl Pg F.api_Nat_Len [a.v] w1 [.one (.int .i64)] fun (r : Int) w2 =>
slc a 0 r 1 fun s1 =>
cpy w2 T.uint64 s s1 fun _ w3 =>
R (s.v) w3
def Dc.toom_wide : Dc := { N := 15, va := [], vb := [], ann := [], ext := Xt }
theorem Eq.toom_wide (a : Sl) (n : Int) (R : Value → TW → Prop) (w : TW) : denF Pg Dc.toom_wide Go.Proofs.Try.f91 (Go.Proofs.Try.f91.body.getD .skip) [a.v, .int .i64 n] w R = Sh.toom_wide a n R w := by kernel_rfl
theorem Ct.toom_wide {a : Sl} {n : Int} {w : TW} {X : Nat → Prop} {K : Tel (fl [.one .slice]) (TW → Prop)} (h : Sh.toom_wide a n (Rt X [.one .slice] K w) w.here) : Ct Pg F.toom_wide [a.v, .int .i64 n] w X [.one .slice] K :=
  ct_of_den (D := Dc.toom_wide) (fn := Go.Proofs.Try.f91) Xt_ok follows_ok (by kernel_rfl) (by kernel_rfl) (by kernel_rfl) (Eq.mpr (Eq.toom_wide a n _ _) h)

def Sh.toom_joined (k : Int) (r0 : Sl) (r1 : Sl) (rm : Sl) (r2 : Sl) (inf : Sl) (neg : Bool) (R : Value → TW → Prop) (w : TW) : Prop :=
cl Pg F.limb_Add [r1.v, rm.v] w [.one .slice] fun (s : Sl) w1 =>
cl Pg F.toom_sub2 [r1.v, rm.v] w1 [.one .slice] fun (s1 : Sl) w2 =>
Jn [.slice, .slice] (fun J0 =>
cond neg (
J0 s1 s w2) (
J0 s s1 w2)) fun (even : Sl) (odd : Sl) w3 =>
cl Pg F.limb_Shr [even.v, .int .i64 1] w3 [.one .slice] fun (s2 : Sl) w4 =>
cl Pg F.limb_Shr [odd.v, .int .i64 1] w4 [.one .slice] fun (s3 : Sl) w5 =>
nwb w5 [r0.v, inf.v] T.api_Nat fun b w6 =>
cl Pg F.toom_sub [s2.v, .slice (some ⟨b, 0, none⟩) 2 2] w6 [.one .slice] fun (s4 : Sl) w7 =>
cl Pg F.limb_Shl [s4.v, .int .i64 2] w7 [.one .slice] fun (s5 : Sl) w8 =>
cl Pg F.limb_Shl [inf.v, .int .i64 4] w8 [.one .slice] fun (s6 : Sl) w9 =>
nwb w9 [r0.v, s5.v, s6.v] T.api_Nat fun b1 w10 =>
cl Pg F.toom_sub [r2.v, .slice (some ⟨b1, 0, none⟩) 3 3] w10 [.one .slice] fun (s7 : Sl) w11 =>
cl Pg F.limb_Shr [s7.v, .int .i64 1] w11 [.one .slice] fun (s8 : Sl) w12 =>
nwb w12 [s3.v] T.api_Nat fun b2 w13 =>
cl Pg F.toom_sub [s8.v, .slice (some ⟨b2, 0, none⟩) 1 1] w13 [.one .slice] fun (s9 : Sl) w14 =>
cl Pg F.toom_Third [s9.v] w14 [.one .slice, .one .bool] fun (s10 : Sl) (_ : Bool) w15 =>
nwb w15 [s10.v] T.api_Nat fun b3 w16 =>
cl Pg F.toom_sub [s3.v, .slice (some ⟨b3, 0, none⟩) 1 1] w16 [.one .slice] fun (s11 : Sl) w17 =>
nwb w17 [r0.v, s11.v, s4.v, s10.v, inf.v] T.api_Nat fun b4 w18 =>
cl Pg F.limb_Join [.int .i64 k, .slice (some ⟨b4, 0, none⟩) 5 5] w18 [.one .slice] fun (s12 : Sl) w19 =>
R (s12.v) w19
def Dc.toom_joined : Dc := { N := 69, va := [], vb := [], ann := [(1, 3, [(15, .one .slice), (16, .one .slice)])], ext := Xt }
theorem Eq.toom_joined (k : Int) (r0 : Sl) (r1 : Sl) (rm : Sl) (r2 : Sl) (inf : Sl) (neg : Bool) (R : Value → TW → Prop) (w : TW) : denF Pg Dc.toom_joined Go.Proofs.Try.f92 (Go.Proofs.Try.f92.body.getD .skip) [.int .i64 k, r0.v, r1.v, rm.v, r2.v, inf.v, .bool neg] w R = Sh.toom_joined k r0 r1 rm r2 inf neg R w := by kernel_rfl
theorem Ct.toom_joined {k : Int} {r0 : Sl} {r1 : Sl} {rm : Sl} {r2 : Sl} {inf : Sl} {neg : Bool} {w : TW} {X : Nat → Prop} {K : Tel (fl [.one .slice]) (TW → Prop)} (h : Sh.toom_joined k r0 r1 rm r2 inf neg (Rt X [.one .slice] K w) w.here) : Ct Pg F.toom_joined [.int .i64 k, r0.v, r1.v, rm.v, r2.v, inf.v, .bool neg] w X [.one .slice] K :=
  ct_of_den (D := Dc.toom_joined) (fn := Go.Proofs.Try.f92) Xt_ok follows_ok (by kernel_rfl) (by kernel_rfl) (by kernel_rfl) (Eq.mpr (Eq.toom_joined k r0 r1 rm r2 inf neg _ _) h)

def Sh.toom_sub2 (a : Sl) (b : Sl) (R : Value → TW → Prop) (w : TW) : Prop :=
cl Pg F.limb_Sub [a.v, b.v] w [.one .slice, .one .bool] fun (s : Sl) (_ : Bool) w1 =>
R (s.v) w1
def Dc.toom_sub2 : Dc := { N := 14, va := [], vb := [], ann := [], ext := Xt }
theorem Eq.toom_sub2 (a : Sl) (b : Sl) (R : Value → TW → Prop) (w : TW) : denF Pg Dc.toom_sub2 Go.Proofs.Try.f96 (Go.Proofs.Try.f96.body.getD .skip) [a.v, b.v] w R = Sh.toom_sub2 a b R w := by kernel_rfl
theorem Ct.toom_sub2 {a : Sl} {b : Sl} {w : TW} {X : Nat → Prop} {K : Tel (fl [.one .slice]) (TW → Prop)} (h : Sh.toom_sub2 a b (Rt X [.one .slice] K w) w.here) : Ct Pg F.toom_sub2 [a.v, b.v] w X [.one .slice] K :=
  ct_of_den (D := Dc.toom_sub2) (fn := Go.Proofs.Try.f96) Xt_ok follows_ok (by kernel_rfl) (by kernel_rfl) (by kernel_rfl) (Eq.mpr (Eq.toom_sub2 a b _ _) h)

def Sh.toom_sub (a : Sl) (l : Sl) (R : Value → TW → Prop) (w : TW) : Prop :=
cl Pg F.limb_Sum [l.v] w [.one .slice] fun (s : Sl) w1 =>
cl Pg F.limb_Sub [a.v, s.v] w1 [.one .slice, .one .bool] fun (s1 : Sl) (_ : Bool) w2 =>
R (s1.v) w2
def Dc.toom_sub : Dc := { N := 15, va := [], vb := [], ann := [], ext := Xt }
theorem Eq.toom_sub (a : Sl) (l : Sl) (R : Value → TW → Prop) (w : TW) : denF Pg Dc.toom_sub Go.Proofs.Try.f98 (Go.Proofs.Try.f98.body.getD .skip) [a.v, l.v] w R = Sh.toom_sub a l R w := by kernel_rfl
theorem Ct.toom_sub {a : Sl} {l : Sl} {w : TW} {X : Nat → Prop} {K : Tel (fl [.one .slice]) (TW → Prop)} (h : Sh.toom_sub a l (Rt X [.one .slice] K w) w.here) : Ct Pg F.toom_sub [a.v, l.v] w X [.one .slice] K :=
  ct_of_den (D := Dc.toom_sub) (fn := Go.Proofs.Try.f98) Xt_ok follows_ok (by kernel_rfl) (by kernel_rfl) (by kernel_rfl) (Eq.mpr (Eq.toom_sub a l _ _) h)
end Go.Proofs.Ytdkhilllajdnpaa.Zg
end

section
set_option maxRecDepth 100000
namespace Go.Proofs.Ytdkhilllajdnpaa.Zg
def Sh.zigguratkeep_Cut (a : Sl) (n : Int) (R : Value → TW → Prop) (w : TW) : Prop :=
bnd (if (n : Int) < (a.n : Int) then n else (a.n : Int)) fun n1 =>
slc a 0 n1 1 fun s =>
R (s.v) w
def Dc.zigguratkeep_Cut : Dc := { N := 11, va := [], vb := [], ann := [], ext := Xt }
theorem Eq.zigguratkeep_Cut (a : Sl) (n : Int) (R : Value → TW → Prop) (w : TW) : denF Pg Dc.zigguratkeep_Cut Go.Proofs.Try.f10 (Go.Proofs.Try.f10.body.getD .skip) [a.v, .int .i64 n] w R = Sh.zigguratkeep_Cut a n R w := by kernel_rfl
theorem Ct.zigguratkeep_Cut {a : Sl} {n : Int} {w : TW} {X : Nat → Prop} {K : Tel (fl [.one .slice]) (TW → Prop)} (h : Sh.zigguratkeep_Cut a n (Rt X [.one .slice] K w) w.here) : Ct Pg F.zigguratkeep_Cut [a.v, .int .i64 n] w X [.one .slice] K :=
  ct_of_den (D := Dc.zigguratkeep_Cut) (fn := Go.Proofs.Try.f10) Xt_ok follows_ok (by kernel_rfl) (by kernel_rfl) (by kernel_rfl) (Eq.mpr (Eq.zigguratkeep_Cut a n _ _) h)

def Sh.zigguratkeep_Lend (a : Sl) (R : Value → TW → Prop) (w : TW) : Prop :=
bnd (wi ((a.n : Int) + 4)) fun n =>
mks w (a.n : Int) n T.uint64 8 [.int .u64 0] fun s w1 =>
cpy w1 T.uint64 s a fun _ w2 =>
bnd (wi ((a.n : Int) + 4)) fun n2 =>
slc s 0 n2 1 fun s1 =>
Jn [] (fun J0 =>
Lp [.int .i64] (fun (i : Int) w3 C0 =>
cond (decide ((i : Int) < (s1.n : Int))) (
ixa s1 i 1 fun a1 =>
stc w3 a1 (.int .u64 6148914691236517205) fun w4 =>
bnd (wi (i + 1)) fun n3 =>
C0 n3 w4) (
J0 w3)) (a.n : Int) w2) fun  w5 =>
R (s.v) w5
def Dc.zigguratkeep_Lend : Dc := { N := 32, va := [], vb := [], ann := [(2, 0, []), (3, 5, [(5, .one (.int .i64))])], ext := Xt }
theorem Eq.zigguratkeep_Lend (a : Sl) (R : Value → TW → Prop) (w : TW) : denF Pg Dc.zigguratkeep_Lend Go.Proofs.Try.f16 (Go.Proofs.Try.f16.body.getD .skip) [a.v] w R = Sh.zigguratkeep_Lend a R w := by kernel_rfl
theorem Ct.zigguratkeep_Lend {a : Sl} {w : TW} {X : Nat → Prop} {K : Tel (fl [.one .slice]) (TW → Prop)} (h : Sh.zigguratkeep_Lend a (Rt X [.one .slice] K w) w.here) : Ct Pg F.zigguratkeep_Lend [a.v] w X [.one .slice] K :=
  ct_of_den (D := Dc.zigguratkeep_Lend) (fn := Go.Proofs.Try.f16) Xt_ok follows_ok (by kernel_rfl) (by kernel_rfl) (by kernel_rfl) (Eq.mpr (Eq.zigguratkeep_Lend a _ _) h)

def Sh.zigguratkeep_Intact (out : Sl) (a : Sl) (R : Value → TW → Prop) (w : TW) : Prop :=
Jn [.bool] (fun J0 =>
cond (((out.n : Int) : Int) != (a.n : Int)) (
J0 true w) (
bnd (wi ((a.n : Int) + 4)) fun n =>
J0 (((out.c : Int) : Int) != n) w)) fun (x : Bool) w1 =>
cond x (
R (.bool false) w1) (
bnd (wi ((a.n : Int) + 4)) fun n1 =>
slc out 0 n1 1 fun s =>
Jn [] (fun J1 =>
Lp [.int .i64] (fun (i : Int) w2 C0 =>
cond (decide ((i : Int) < (s.n : Int))) (
Jn [.bool] (fun J2 =>
cond (decide ((i : Int) < (a.n : Int))) (
ixa s i 1 fun a1 =>
ldc (.int .u64) w2.drew a1 fun (v : Int) =>
ixa a i 1 fun a2 =>
ldc (.int .u64) w2.drew a2 fun (v1 : Int) =>
cond ((v : Int) != v1) (
J2 true w2.drew) (
cond (decide ((i : Int) ≥ (a.n : Int))) (
ixa s i 1 fun a3 =>
ldc (.int .u64) w2.drew a3 fun (v2 : Int) =>
J2 ((v2 : Int) != 6148914691236517205) w2.drew) (
J2 false w2.drew))) (
cond (decide ((i : Int) ≥ (a.n : Int))) (
ixa s i 1 fun a4 =>
ldc (.int .u64) w2.drew a4 fun (v3 : Int) =>
J2 ((v3 : Int) != 6148914691236517205) w2.drew) (
J2 false w2.drew))) fun (x1 : Bool) w3 =>
cond x1 (
R (.bool false) w3) (
bnd (wi (i + 1)) fun n2 =>
C0 n2 w3)) (
J1 w2)) 0 w1) fun  w4 =>
R (.bool true) w4)
def Dc.zigguratkeep_Intact : Dc := { N := 59, va := [], vb := [], ann := [(0, 1, [(19, .one .bool)]), (2, 0, []), (3, 5, [(6, .one (.int .i64))]), (0, 7, [(58, .one .bool)])], ext := Xt }
theorem Eq.zigguratkeep_Intact (out : Sl) (a : Sl) (R : Value → TW → Prop) (w : TW) : denF Pg Dc.zigguratkeep_Intact Go.Proofs.Try.f19 (Go.Proofs.Try.f19.body.getD .skip) [out.v, a.v] w R = Sh.zigguratkeep_Intact out a R w := by kernel_rfl
theorem Ct.zigguratkeep_Intact {out : Sl} {a : Sl} {w : TW} {X : Nat → Prop} {K : Tel (fl [.one .bool]) (TW → Prop)} (h : Sh.zigguratkeep_Intact out a (Rt X [.one .bool] K w) w.here) : Ct Pg F.zigguratkeep_Intact [out.v, a.v] w X [.one .bool] K :=
  ct_of_den (D := Dc.zigguratkeep_Intact) (fn := Go.Proofs.Try.f19) Xt_ok follows_ok (by kernel_rfl) (by kernel_rfl) (by kernel_rfl) (Eq.mpr (Eq.zigguratkeep_Intact out a _ _) h)

def Sh.zigguratkeep_Int (a0 : Sl) (a1 : Bool) (b0 : Sl) (b1 : Bool) (R : Value → TW → Prop) (w : TW) : Prop :=
nwv w fun w1 =>
nwv w1 fun w2 =>
Jn [.bool] (fun J0 =>
cond (a1 == b1) (
cl Pg F.zigguratkeep_Same [a0.v, b0.v] w2 [.one .bool] fun (ok : Bool) w3 =>
J0 ok w3) (
J0 false w2)) fun (x : Bool) w4 =>
R (.bool x) w4
def Dc.zigguratkeep_Int : Dc := { N := 17, va := [(2, 17), (3, 19)], vb := [(17, 2), (19, 2)], ann := [(0, 1, [(4, .one .bool)])], ext := Xt }
theorem Eq.zigguratkeep_Int (a0 : Sl) (a1 : Bool) (b0 : Sl) (b1 : Bool) (R : Value → TW → Prop) (w : TW) : denF Pg Dc.zigguratkeep_Int Go.Proofs.Try.f29 (Go.Proofs.Try.f29.body.getD .skip) [.agg #[a0.v, .bool a1], .agg #[b0.v, .bool b1]] w R = Sh.zigguratkeep_Int a0 a1 b0 b1 R w := by kernel_rfl
theorem Ct.zigguratkeep_Int {a0 : Sl} {a1 : Bool} {b0 : Sl} {b1 : Bool} {w : TW} {X : Nat → Prop} {K : Tel (fl [.one .bool]) (TW → Prop)} (h : Sh.zigguratkeep_Int a0 a1 b0 b1 (Rt X [.one .bool] K w) w.here) : Ct Pg F.zigguratkeep_Int [.agg #[a0.v, .bool a1], .agg #[b0.v, .bool b1]] w X [.one .bool] K :=
  ct_of_den (D := Dc.zigguratkeep_Int) (fn := Go.Proofs.Try.f29) Xt_ok follows_ok (by kernel_rfl) (by kernel_rfl) (by kernel_rfl) (Eq.mpr (Eq.zigguratkeep_Int a0 a1 b0 b1 _ _) h)

def Sh.zigguratkeep_Spoil (a : Sl) (R : Value → TW → Prop) (w : TW) : Prop :=
slc a 0 (a.c : Int) 1 fun s =>
Jn [] (fun J0 =>
Lp [.int .i64] (fun (i : Int) w1 C0 =>
cond (decide ((i : Int) < (s.n : Int))) (
ixa s i 1 fun a1 =>
stc w1 a1 (.int .u64 8608480567731124087) fun w2 =>
bnd (wi (i + 1)) fun n =>
C0 n w2) (
J0 w1)) 0 w) fun  w3 =>
R (.tuple #[]) w3
def Dc.zigguratkeep_Spoil : Dc := { N := 17, va := [], vb := [], ann := [(2, 0, []), (3, 2, [(3, .one (.int .i64))])], ext := Xt }
theorem Eq.zigguratkeep_Spoil (a : Sl) (R : Value → TW → Prop) (w : TW) : denF Pg Dc.zigguratkeep_Spoil Go.Proofs.Try.f36 (Go.Proofs.Try.f36.body.getD .skip) [a.v] w R = Sh.zigguratkeep_Spoil a R w := by kernel_rfl
theorem Ct.zigguratkeep_Spoil {a : Sl} {w : TW} {X : Nat → Prop} {K : Tel (fl []) (TW → Prop)} (h : Sh.zigguratkeep_Spoil a (Rt X [] K w) w.here) : Ct Pg F.zigguratkeep_Spoil [a.v] w X [] K :=
  ct_of_den (D := Dc.zigguratkeep_Spoil) (fn := Go.Proofs.Try.f36) Xt_ok follows_ok (by kernel_rfl) (by kernel_rfl) (by kernel_rfl) (Eq.mpr (Eq.zigguratkeep_Spoil a _ _) h)

def Sh.zigguratkeep_Within (v : Int) (n : Int) (R : Value → TW → Prop) (w : TW) : Prop :=
cond (decide ((n : Int) < 1)) (
R (.int .i64 0) w) (
remK v n fun n1 =>
Jn [.int .i64] (fun J0 =>
cond (decide ((n1 : Int) < 0)) (
bnd (wi (n1 + n)) fun n2 =>
J0 n2 w) (
J0 n1 w)) fun (k : Int) w1 =>
R (.int .i64 k) w1)
def Dc.zigguratkeep_Within : Dc := { N := 17, va := [], vb := [], ann := [(1, 5, [(5, .one (.int .i64))])], ext := Xt }
theorem Eq.zigguratkeep_Within (v : Int) (n : Int) (R : Value → TW → Prop) (w : TW) : denF Pg Dc.zigguratkeep_Within Go.Proofs.Try.f40 (Go.Proofs.Try.f40.body.getD .skip) [.int .i64 v, .int .i64 n] w R = Sh.zigguratkeep_Within v n R w := by kernel_rfl
theorem Ct.zigguratkeep_Within {v : Int} {n : Int} {w : TW} {X : Nat → Prop} {K : Tel (fl [.one (.int .i64)]) (TW → Prop)} (h : Sh.zigguratkeep_Within v n (Rt X [.one (.int .i64)] K w) w.here) : Ct Pg F.zigguratkeep_Within [.int .i64 v, .int .i64 n] w X [.one (.int .i64)] K :=
  ct_of_den (D := Dc.zigguratkeep_Within) (fn := Go.Proofs.Try.f40) Xt_ok follows_ok (by kernel_rfl) (by kernel_rfl) (by kernel_rfl) (Eq.mpr (Eq.zigguratkeep_Within v n _ _) h)

def Sh.zigguratkeep_Same (a : Sl) (b : Sl) (R : Value → TW → Prop) (w : TW) : Prop :=
cond (((a.n : Int) : Int) != (b.n : Int)) (
R (.bool false) w) (
Jn [] (fun J0 =>
Lp [.int .i64] (fun (i : Int) w1 C0 =>
cond (decide ((i : Int) < (a.n : Int))) (
ixa a i 1 fun a1 =>
ldc (.int .u64) w1.drew a1 fun (v : Int) =>
ixa b i 1 fun a2 =>
ldc (.int .u64) w1.drew a2 fun (v1 : Int) =>
cond ((v : Int) != v1) (
R (.bool false) w1.drew) (
bnd (wi (i + 1)) fun n =>
C0 n w1.drew)) (
J0 w1)) 0 w) fun  w2 =>
R (.bool true) w2)
def Dc.zigguratkeep_Same : Dc := { N := 26, va := [], vb := [], ann := [(2, 0, []), (3, 4, [(5, .one (.int .i64))])], ext := Xt }
theorem Eq.zigguratkeep_Same (a : Sl) (b : Sl) (R : Value → TW → Prop) (w : TW) : denF Pg Dc.zigguratkeep_Same Go.Proofs.Try.f56 (Go.Proofs.Try.f56.body.getD .skip) [a.v, b.v] w R = Sh.zigguratkeep_Same a b R w := by kernel_rfl
theorem Ct.zigguratkeep_Same {a : Sl} {b : Sl} {w : TW} {X : Nat → Prop} {K : Tel (fl [.one .bool]) (TW → Prop)} (h : Sh.zigguratkeep_Same a b (Rt X [.one .bool] K w) w.here) : Ct Pg F.zigguratkeep_Same [a.v, b.v] w X [.one .bool] K :=
  ct_of_den (D := Dc.zigguratkeep_Same) (fn := Go.Proofs.Try.f56) Xt_ok follows_ok (by kernel_rfl) (by kernel_rfl) (by kernel_rfl) (Eq.mpr (Eq.zigguratkeep_Same a b _ _) h)
end Go.Proofs.Ytdkhilllajdnpaa.Zg
end

section
set_option maxRecDepth 100000
namespace Go.Proofs.Ytdkhilllajdnpaa.Zg
def Sh.zigguratlaw10_KaraBoth (t : HL [.int .i64, .int .i64, .int .i64, .int .i64, .int .i64, .int .i64, .int .i64, .int .i64, .int .i64, .int .i64, .int .i64]) (a : Sl) (b : Sl) (R : Value → TW → Prop) (w : TW) : Prop :=
nwv w fun w1 =>
cl Pg F.zigguratkeep_Cut [a.v, .int .i64 60] w1 [.one .slice] fun (s : Sl) w2 =>
cl Pg F.zigguratkeep_Cut [b.v, .int .i64 60] w2 [.one .slice] fun (s1 : Sl) w3 =>
cl Pg F.kara_New [.agg #[.int .i64 t.1, .int .i64 t.2.1, .int .i64 t.2.2.1, .int .i64 t.2.2.2.1, .int .i64 t.2.2.2.2.1, .int .i64 t.2.2.2.2.2.1, .int .i64 t.2.2.2.2.2.2.1, .int .i64 t.2.2.2.2.2.2.2.1, .int .i64 t.2.2.2.2.2.2.2.2.1, .int .i64 t.2.2.2.2.2.2.2.2.2.1, .int .i64 t.2.2.2.2.2.2.2.2.2.2.1]] w3 [.one .ptr] fun (p : Option Addr) w4 =>
cond (Option.isNone p) (
R (.bool false) w4) (
cl Pg F.zigguratkeep_Lend [s.v] w4 [.one .slice] fun (s2 : Sl) w5 =>
cl Pg F.zigguratkeep_Lend [s1.v] w5 [.one .slice] fun (s3 : Sl) w6 =>
cl Pg F.kara_Engine_Both [.pointer p, s2.v, s3.v] w6 [.one .slice] fun (s4 : Sl) w7 =>
Jn [.bool] (fun J0 =>
cl Pg F.zigguratlaw10_from [s.v] w7 [.one .slice] fun (s5 : Sl) w8 =>
cl Pg F.zigguratlaw10_from [s1.v] w8 [.one .slice] fun (s6 : Sl) w9 =>
cl Pg F.zigguratref02_Mul [s5.v, s6.v] w9 [.one .slice] fun (s7 : Sl) w10 =>
cl Pg F.zigguratref02_Same [s7.v, s4.v] w10 [.one .bool] fun (ok : Bool) w11 =>
cond (!ok) (
J0 true w11) (
nck p fun a1 =>
ldc (.ptr) w11 a1 fun (v : Option Addr) =>
nck v fun a2 =>
ldc (.ptr) w11 a2 fun (v1 : Option Addr) =>
nck v1 fun a3 =>
cl Pg F.meter_Meter_Now [.pointer (some a3)] w11 [.one (.int .i64)] fun (r : Int) w12 =>
J0 ((r : Int) != 0) w12)) fun (x : Bool) w13 =>
cond x (
R (.bool false) w13) (
cl Pg F.zigguratkeep_Spoil [s4.v] w13 [] fun w14 =>
Jn [.bool] (fun J1 =>
cl Pg F.zigguratkeep_Intact [s2.v, s.v] w14 [.one .bool] fun (ok1 : Bool) w15 =>
cond ok1 (
cl Pg F.zigguratkeep_Intact [s3.v, s1.v] w15 [.one .bool] fun (ok2 : Bool) w16 =>
cond ok2 (
cl Pg F.zigguratlaw10_wakes [] w16 [.one .bool] fun (ok3 : Bool) w17 =>
J1 ok3 w17) (
J1 false w16)) (
J1 false w15)) fun (x1 : Bool) w18 =>
R (.bool x1) w18))
def Dc.zigguratlaw10_KaraBoth : Dc := { N := 61, va := [(3, 61)], vb := [(61, 11)], ann := [(0, 7, [(47, .one .bool)]), (0, 10, [(6, .one .bool)])], ext := Xt }
theorem Eq.zigguratlaw10_KaraBoth (t : HL [.int .i64, .int .i64, .int .i64, .int .i64, .int .i64, .int .i64, .int .i64, .int .i64, .int .i64, .int .i64, .int .i64]) (a : Sl) (b : Sl) (R : Value → TW → Prop) (w : TW) : denF Pg Dc.zigguratlaw10_KaraBoth Go.Proofs.Try.f5 (Go.Proofs.Try.f5.body.getD .skip) [.agg (encs [.int .i64, .int .i64, .int .i64, .int .i64, .int .i64, .int .i64, .int .i64, .int .i64, .int .i64, .int .i64, .int .i64] t).toArray, a.v, b.v] w R = Sh.zigguratlaw10_KaraBoth t a b R w := by kernel_rfl
theorem Ct.zigguratlaw10_KaraBoth {t : HL [.int .i64, .int .i64, .int .i64, .int .i64, .int .i64, .int .i64, .int .i64, .int .i64, .int .i64, .int .i64, .int .i64]} {a : Sl} {b : Sl} {w : TW} {X : Nat → Prop} {K : Tel (fl [.one .bool]) (TW → Prop)} (h : Sh.zigguratlaw10_KaraBoth t a b (Rt X [.one .bool] K w) w.here) : Ct Pg F.zigguratlaw10_KaraBoth [.agg (encs [.int .i64, .int .i64, .int .i64, .int .i64, .int .i64, .int .i64, .int .i64, .int .i64, .int .i64, .int .i64, .int .i64] t).toArray, a.v, b.v] w X [.one .bool] K :=
  ct_of_den (D := Dc.zigguratlaw10_KaraBoth) (fn := Go.Proofs.Try.f5) Xt_ok follows_ok (by kernel_rfl) (by kernel_rfl) (by kernel_rfl) (Eq.mpr (Eq.zigguratlaw10_KaraBoth t a b _ _) h)

def Sh.zigguratlaw10_KaraGreat (t : HL [.int .i64, .int .i64, .int .i64, .int .i64, .int .i64, .int .i64, .int .i64, .int .i64, .int .i64, .int .i64, .int .i64]) (n : Int) (m : Int) (R : Value → TW → Prop) (w : TW) : Prop :=
nwv w fun w1 =>
cl Pg F.zigguratkeep_Within [.int .i64 n, .int .i64 50] w1 [.one (.int .i64)] fun (r : Int) w2 =>
bnd (wi (1 + r)) fun n1 =>
cl Pg F.zigguratkeep_Within [.int .i64 m, .int .i64 50] w2 [.one (.int .i64)] fun (r1 : Int) w3 =>
bnd (wi (1 + r1)) fun n2 =>
Jn [.slice, .slice, .int .i64, .int .i64, .int .i64, .int .i64, .int .i64, .int .i64, .int .i64, .int .i64, .int .i64, .int .i64, .int .i64] (fun J0 =>
(mks w3.drew n1 n1 T.uint64 8 [.int .u64 0] fun s w4 =>
mks w4 n2 n2 T.uint64 8 [.int .u64 0] fun s1 w5 =>
J0 s s1 t.1 t.2.1 t.2.2.1 t.2.2.2.1 t.2.2.2.2.1 t.2.2.2.2.2.1 t.2.2.2.2.2.2.1 t.2.2.2.2.2.2.2.1 t.2.2.2.2.2.2.2.2.1 t.2.2.2.2.2.2.2.2.2.1 t.2.2.2.2.2.2.2.2.2.2.1 w5) ∧
(mks w3.drew n2 n2 T.uint64 8 [.int .u64 0] fun s2 w6 =>
mks w6 n1 n1 T.uint64 8 [.int .u64 0] fun s3 w7 =>
J0 s3 s2 t.1 t.2.1 t.2.2.1 t.2.2.2.1 t.2.2.2.2.1 t.2.2.2.2.2.1 t.2.2.2.2.2.2.1 t.2.2.2.2.2.2.2.1 t.2.2.2.2.2.2.2.2.1 t.2.2.2.2.2.2.2.2.2.1 t.2.2.2.2.2.2.2.2.2.2.1 w7)) fun (a : Sl) (b : Sl) (t1 : Int) (t2 : Int) (t3 : Int) (t4 : Int) (t5 : Int) (t6 : Int) (t7 : Int) (t8 : Int) (t9 : Int) (t10 : Int) (t11 : Int) w8 =>
Jn [.int .i64, .int .i64, .int .i64, .int .i64, .int .i64, .int .i64, .int .i64, .int .i64, .int .i64, .int .i64, .int .i64] (fun J1 =>
Lp [.int .i64, .int .i64, .int .i64, .int .i64, .int .i64, .int .i64, .int .i64, .int .i64, .int .i64, .int .i64, .int .i64, .int .i64] (fun (i : Int) (t12 : Int) (t13 : Int) (t14 : Int) (t15 : Int) (t16 : Int) (t17 : Int) (t18 : Int) (t19 : Int) (t20 : Int) (t21 : Int) (t22 : Int) w9 C0 =>
cond (decide ((i : Int) < n1)) (
ixa a i 1 fun a1 =>
stc w9 a1 (.int .u64 18446744073709551615) fun w10 =>
bnd (wi (i + 1)) fun n3 =>
C0 n3 t12 t13 t14 t15 t16 t17 t18 t19 t20 t21 t22 w10) (
J1 t12 t13 t14 t15 t16 t17 t18 t19 t20 t21 t22 w9)) 0 t1 t2 t3 t4 t5 t6 t7 t8 t9 t10 t11 w8) fun (t23 : Int) (t24 : Int) (t25 : Int) (t26 : Int) (t27 : Int) (t28 : Int) (t29 : Int) (t30 : Int) (t31 : Int) (t32 : Int) (t33 : Int) w11 =>
Jn [.int .i64, .int .i64, .int .i64, .int .i64, .int .i64, .int .i64, .int .i64, .int .i64, .int .i64, .int .i64, .int .i64] (fun J2 =>
Lp [.int .i64, .int .i64, .int .i64, .int .i64, .int .i64, .int .i64, .int .i64, .int .i64, .int .i64, .int .i64, .int .i64, .int .i64] (fun (i1 : Int) (t34 : Int) (t35 : Int) (t36 : Int) (t37 : Int) (t38 : Int) (t39 : Int) (t40 : Int) (t41 : Int) (t42 : Int) (t43 : Int) (t44 : Int) w12 C1 =>
cond (decide ((i1 : Int) < n2)) (
ixa b i1 1 fun a2 =>
stc w12 a2 (.int .u64 18446744073709551615) fun w13 =>
bnd (wi (i1 + 1)) fun n4 =>
C1 n4 t34 t35 t36 t37 t38 t39 t40 t41 t42 t43 t44 w13) (
J2 t34 t35 t36 t37 t38 t39 t40 t41 t42 t43 t44 w12)) 0 t23 t24 t25 t26 t27 t28 t29 t30 t31 t32 t33 w11) fun (t45 : Int) (t46 : Int) (t47 : Int) (t48 : Int) (t49 : Int) (t50 : Int) (t51 : Int) (t52 : Int) (t53 : Int) (t54 : Int) (t55 : Int) w14 =>
Jn [.bool] (fun J3 =>
cl Pg F.zigguratlaw10_KaraMuls [.agg #[.int .i64 t45, .int .i64 t46, .int .i64 t47, .int .i64 t48, .int .i64 t49, .int .i64 t50, .int .i64 t51, .int .i64 t52, .int .i64 t53, .int .i64 t54, .int .i64 t55], a.v, b.v] w14 [.one .bool] fun (ok : Bool) w15 =>
cond ok (
cl Pg F.zigguratlaw10_KaraBoth [.agg #[.int .i64 t45, .int .i64 t46, .int .i64 t47, .int .i64 t48, .int .i64 t49, .int .i64 t50, .int .i64 t51, .int .i64 t52, .int .i64 t53, .int .i64 t54, .int .i64 t55], a.v, b.v] w15 [.one .bool] fun (ok1 : Bool) w16 =>
cond ok1 (
cl Pg F.zigguratlaw10_KaraSquares [.agg #[.int .i64 t45, .int .i64 t46, .int .i64 t47, .int .i64 t48, .int .i64 t49, .int .i64 t50, .int .i64 t51, .int .i64 t52, .int .i64 t53, .int .i64 t54, .int .i64 t55], a.v] w16 [.one .bool] fun (ok2 : Bool) w17 =>
cond ok2 (
cl Pg F.zigguratlaw10_wakes [] w17 [.one .bool] fun (ok3 : Bool) w18 =>
J3 ok3 w18) (
J3 false w17)) (
J3 false w16)) (
J3 false w15)) fun (x : Bool) w19 =>
R (.bool x) w19
def Dc.zigguratlaw10_KaraGreat : Dc := { N := 55, va := [(3, 55)], vb := [(55, 11)], ann := [(0, 2, [(7, .one .slice), (8, .one .slice), (55, .one (.int .i64)), (56, .one (.int .i64)), (57, .one (.int .i64)), (58, .one (.int .i64)), (59, .one (.int .i64)), (60, .one (.int .i64)), (61, .one (.int .i64)), (62, .one (.int .i64)), (63, .one (.int .i64)), (64, .one (.int .i64)), (65, .one (.int .i64))]), (2, 0, [(55, .one (.int .i64)), (56, .one (.int .i64)), (57, .one (.int .i64)), (58, .one (.int .i64)), (59, .one (.int .i64)), (60, .one (.int .i64)), (61, .one (.int .i64)), (62, .one (.int .i64)), (63, .one (.int .i64)), (64, .one (.int .i64)), (65, .one (.int .i64))]), (3, 4, [(9, .one (.int .i64)), (55, .one (.int .i64)), (56, .one (.int .i64)), (57, .one (.int .i64)), (58, .one (.int .i64)), (59, .one (.int .i64)), (60, .one (.int .i64)), (61, .one (.int .i64)), (62, .one (.int .i64)), (63, .one (.int .i64)), (64, .one (.int .i64)), (65, .one (.int .i64))]), (2, 2, [(55, .one (.int .i64)), (56, .one (.int .i64)), (57, .one (.int .i64)), (58, .one (.int .i64)), (59, .one (.int .i64)), (60, .one (.int .i64)), (61, .one (.int .i64)), (62, .one (.int .i64)), (63, .one (.int .i64)), (64, .one (.int .i64)), (65, .one (.int .i64))]), (3, 8, [(10, .one (.int .i64)), (55, .one (.int .i64)), (56, .one (.int .i64)), (57, .one (.int .i64)), (58, .one (.int .i64)), (59, .one (.int .i64)), (60, .one (.int .i64)), (61, .one (.int .i64)), (62, .one (.int .i64)), (63, .one (.int .i64)), (64, .one (.int .i64)), (65, .one (.int .i64))]), (0, 11, [(6, .one .bool)])], ext := Xt }
theorem Eq.zigguratlaw10_KaraGreat (t : HL [.int .i64, .int .i64, .int .i64, .int .i64, .int .i64, .int .i64, .int .i64, .int .i64, .int .i64, .int .i64, .int .i64]) (n : Int) (m : Int) (R : Value → TW → Prop) (w : TW) : denF Pg Dc.zigguratlaw10_KaraGreat Go.Proofs.Try.f7 (Go.Proofs.Try.f7.body.getD .skip) [.agg (encs [.int .i64, .int .i64, .int .i64, .int .i64, .int .i64, .int .i64, .int .i64, .int .i64, .int .i64, .int .i64, .int .i64] t).toArray, .int .i64 n, .int .i64 m] w R = Sh.zigguratlaw10_KaraGreat t n m R w := by kernel_rfl
theorem Ct.zigguratlaw10_KaraGreat {t : HL [.int .i64, .int .i64, .int .i64, .int .i64, .int .i64, .int .i64, .int .i64, .int .i64, .int .i64, .int .i64, .int .i64]} {n : Int} {m : Int} {w : TW} {X : Nat → Prop} {K : Tel (fl [.one .bool]) (TW → Prop)} (h : Sh.zigguratlaw10_KaraGreat t n m (Rt X [.one .bool] K w) w.here) : Ct Pg F.zigguratlaw10_KaraGreat [.agg (encs [.int .i64, .int .i64, .int .i64, .int .i64, .int .i64, .int .i64, .int .i64, .int .i64, .int .i64, .int .i64, .int .i64] t).toArray, .int .i64 n, .int .i64 m] w X [.one .bool] K :=
  ct_of_den (D := Dc.zigguratlaw10_KaraGreat) (fn := Go.Proofs.Try.f7) Xt_ok follows_ok (by kernel_rfl) (by kernel_rfl) (by kernel_rfl) (Eq.mpr (Eq.zigguratlaw10_KaraGreat t n m _ _) h)

def Sh.zigguratlaw10_KaraHands (t : HL [.int .i64, .int .i64, .int .i64, .int .i64, .int .i64, .int .i64, .int .i64, .int .i64, .int .i64, .int .i64, .int .i64]) (a : Sl) (b : Sl) (R : Value → TW → Prop) (w : TW) : Prop :=
nwv w fun w1 =>
cl Pg F.zigguratkeep_Cut [a.v, .int .i64 20] w1 [.one .slice] fun (s : Sl) w2 =>
cl Pg F.zigguratkeep_Cut [b.v, .int .i64 20] w2 [.one .slice] fun (s1 : Sl) w3 =>
cl Pg F.kara_New [.agg #[.int .i64 t.1, .int .i64 t.2.1, .int .i64 t.2.2.1, .int .i64 t.2.2.2.1, .int .i64 t.2.2.2.2.1, .int .i64 t.2.2.2.2.2.1, .int .i64 t.2.2.2.2.2.2.1, .int .i64 t.2.2.2.2.2.2.2.1, .int .i64 t.2.2.2.2.2.2.2.2.1, .int .i64 t.2.2.2.2.2.2.2.2.2.1, .int .i64 t.2.2.2.2.2.2.2.2.2.2.1]] w3 [.one .ptr] fun (p : Option Addr) w4 =>
cond (Option.isNone p) (
R (.bool false) w4) (
nck p fun a1 =>
ldc (.ptr) w4 a1 fun (v : Option Addr) =>
cl Pg F.school_Engine_Mul [.pointer v, s.v, s1.v] w4 [.one .slice] fun (s2 : Sl) w5 =>
Jn [.bool] (fun J0 =>
nck p fun a2 =>
ldc (.ptr) w5 a2 fun (v1 : Option Addr) =>
nck v1 fun a3 =>
ldc (.ptr) w5 a3 fun (v2 : Option Addr) =>
nck v2 fun a4 =>
cl Pg F.meter_Meter_Muls [.pointer (some a4)] w5 [.one (.int .i64)] fun (r : Int) w6 =>
bnd (wi ((s.n : Int) * (s1.n : Int))) fun n =>
cond ((r : Int) != n) (
J0 true w6) (
cl Pg F.zigguratlaw10_from [s.v] w6 [.one .slice] fun (s3 : Sl) w7 =>
cl Pg F.zigguratlaw10_from [s1.v] w7 [.one .slice] fun (s4 : Sl) w8 =>
cl Pg F.zigguratref02_Mul [s3.v, s4.v] w8 [.one .slice] fun (s5 : Sl) w9 =>
cl Pg F.zigguratref02_Same [s5.v, s2.v] w9 [.one .bool] fun (ok : Bool) w10 =>
J0 (!ok) w10)) fun (x : Bool) w11 =>
cond x (
R (.bool false) w11) (
nck p fun a5 =>
ldc (.ptr) w11 a5 fun (v3 : Option Addr) =>
cl Pg F.school_Engine_Sqr [.pointer v3, s.v] w11 [.one .slice] fun (s6 : Sl) w12 =>
Jn [.bool] (fun J1 =>
nck p fun a6 =>
ldc (.ptr) w12 a6 fun (v4 : Option Addr) =>
nck v4 fun a7 =>
ldc (.ptr) w12 a7 fun (v5 : Option Addr) =>
nck v5 fun a8 =>
cl Pg F.meter_Meter_Muls [.pointer (some a8)] w12 [.one (.int .i64)] fun (r1 : Int) w13 =>
bnd (wi ((s.n : Int) * (s1.n : Int))) fun n1 =>
bnd (wi ((s.n : Int) + 1)) fun n2 =>
bnd (wi ((s.n : Int) * n2)) fun n3 =>
divK .i64 n3 2 fun n4 =>
bnd (wi (n1 + n4)) fun n5 =>
cond ((r1 : Int) == n5) (
cl Pg F.zigguratlaw10_from [s.v] w13 [.one .slice] fun (s7 : Sl) w14 =>
cl Pg F.zigguratlaw10_from [s.v] w14 [.one .slice] fun (s8 : Sl) w15 =>
cl Pg F.zigguratref02_Mul [s7.v, s8.v] w15 [.one .slice] fun (s9 : Sl) w16 =>
cl Pg F.zigguratref02_Same [s9.v, s6.v] w16 [.one .bool] fun (ok1 : Bool) w17 =>
cond ok1 (
nck p fun a9 =>
ldc (.ptr) w17 a9 fun (v6 : Option Addr) =>
nck v6 fun a10 =>
ldc (.ptr) w17 a10 fun (v7 : Option Addr) =>
nck v7 fun a11 =>
ldc (.int .i64) w17 (a11.add 3) fun (v8 : Int) =>
cond (decide ((v8 : Int) ≥ 4)) (
nck p fun a12 =>
ldc (.ptr) w17 a12 fun (v9 : Option Addr) =>
nck v9 fun a13 =>
ldc (.ptr) w17 a13 fun (v10 : Option Addr) =>
nck v10 fun a14 =>
ldc (.int .i64) w17 (a14.add 3) fun (v11 : Int) =>
cond (decide ((v11 : Int) ≤ 64)) (
cl Pg F.zigguratlaw10_wakes [] w17 [.one .bool] fun (ok2 : Bool) w18 =>
J1 ok2 w18) (
J1 false w17)) (
J1 false w17)) (
J1 false w17)) (
J1 false w13)) fun (x1 : Bool) w19 =>
R (.bool x1) w19))
def Dc.zigguratlaw10_KaraHands : Dc := { N := 121, va := [(3, 121)], vb := [(121, 11)], ann := [(0, 6, [(50, .one .bool)]), (0, 9, [(6, .one .bool)])], ext := Xt }
theorem Eq.zigguratlaw10_KaraHands (t : HL [.int .i64, .int .i64, .int .i64, .int .i64, .int .i64, .int .i64, .int .i64, .int .i64, .int .i64, .int .i64, .int .i64]) (a : Sl) (b : Sl) (R : Value → TW → Prop) (w : TW) : denF Pg Dc.zigguratlaw10_KaraHands Go.Proofs.Try.f8 (Go.Proofs.Try.f8.body.getD .skip) [.agg (encs [.int .i64, .int .i64, .int .i64, .int .i64, .int .i64, .int .i64, .int .i64, .int .i64, .int .i64, .int .i64, .int .i64] t).toArray, a.v, b.v] w R = Sh.zigguratlaw10_KaraHands t a b R w := by kernel_rfl
theorem Ct.zigguratlaw10_KaraHands {t : HL [.int .i64, .int .i64, .int .i64, .int .i64, .int .i64, .int .i64, .int .i64, .int .i64, .int .i64, .int .i64, .int .i64]} {a : Sl} {b : Sl} {w : TW} {X : Nat → Prop} {K : Tel (fl [.one .bool]) (TW → Prop)} (h : Sh.zigguratlaw10_KaraHands t a b (Rt X [.one .bool] K w) w.here) : Ct Pg F.zigguratlaw10_KaraHands [.agg (encs [.int .i64, .int .i64, .int .i64, .int .i64, .int .i64, .int .i64, .int .i64, .int .i64, .int .i64, .int .i64, .int .i64] t).toArray, a.v, b.v] w X [.one .bool] K :=
  ct_of_den (D := Dc.zigguratlaw10_KaraHands) (fn := Go.Proofs.Try.f8) Xt_ok follows_ok (by kernel_rfl) (by kernel_rfl) (by kernel_rfl) (Eq.mpr (Eq.zigguratlaw10_KaraHands t a b _ _) h)

def Sh.zigguratlaw10_from (a : Sl) (R : Value → TW → Prop) (w : TW) : Prop :=
cl Pg F.zigguratref02_From [a.v] w [.one .slice] fun (s : Sl) w1 =>
R (s.v) w1
def Dc.zigguratlaw10_from : Dc := { N := 5, va := [], vb := [], ann := [], ext := Xt }
theorem Eq.zigguratlaw10_from (a : Sl) (R : Value → TW → Prop) (w : TW) : denF Pg Dc.zigguratlaw10_from Go.Proofs.Try.f34 (Go.Proofs.Try.f34.body.getD .skip) [a.v] w R = Sh.zigguratlaw10_from a R w := by kernel_rfl
theorem Ct.zigguratlaw10_from {a : Sl} {w : TW} {X : Nat → Prop} {K : Tel (fl [.one .slice]) (TW → Prop)} (h : Sh.zigguratlaw10_from a (Rt X [.one .slice] K w) w.here) : Ct Pg F.zigguratlaw10_from [a.v] w X [.one .slice] K :=
  ct_of_den (D := Dc.zigguratlaw10_from) (fn := Go.Proofs.Try.f34) Xt_ok follows_ok (by kernel_rfl) (by kernel_rfl) (by kernel_rfl) (Eq.mpr (Eq.zigguratlaw10_from a _ _) h)

def Sh.zigguratlaw10_wakes (R : Value → TW → Prop) (w : TW) : Prop :=
cl Pg F.kara_New [.agg #[.int .i64 0, .int .i64 0, .int .i64 0, .int .i64 0, .int .i64 0, .int .i64 0, .int .i64 0, .int .i64 0, .int .i64 0, .int .i64 0, .int .i64 0]] w [.one .ptr] fun (p : Option Addr) w1 =>
cond (Option.isNone p) (
R (.bool false) w1) (
nwb w1 [.int .i64 0] T.int fun b w2 =>
stc w2 ⟨b, 0, none⟩ (.int .i64 0) fun w3 =>
nwb w3 [.int .u64 1, .int .u64 2, .int .u64 3, .int .u64 4] T.uint64 fun b1 w4 =>
nwb w4 [.int .u64 5, .int .u64 6, .int .u64 7, .int .u64 8] T.uint64 fun b2 w5 =>
cl Pg F.kara_Engine_Kara [.pointer p, .slice (some ⟨b1, 0, none⟩) 4 4, .slice (some ⟨b2, 0, none⟩) 4 4, .func (.func F.zigguratlaw10_wakes_1) #[] #[.pointer (some ⟨b, 0, none⟩)]] w5 [.one .slice, .one .bool] fun (s : Sl) (ok : Bool) w6 =>
Jn [.bool] (fun J0 =>
cond ok (
ldc (.int .i64) w6 ⟨b, 0, none⟩ fun (v : Int) =>
cond ((v : Int) == 223) (
nwb w6 [.int .u64 1, .int .u64 2, .int .u64 3, .int .u64 4] T.uint64 fun b3 w7 =>
cl Pg F.zigguratlaw10_from [.slice (some ⟨b3, 0, none⟩) 4 4] w7 [.one .slice] fun (s1 : Sl) w8 =>
nwb w8 [.int .u64 5, .int .u64 6, .int .u64 7, .int .u64 8] T.uint64 fun b4 w9 =>
cl Pg F.zigguratlaw10_from [.slice (some ⟨b4, 0, none⟩) 4 4] w9 [.one .slice] fun (s2 : Sl) w10 =>
cl Pg F.zigguratref02_Mul [s1.v, s2.v] w10 [.one .slice] fun (s3 : Sl) w11 =>
cl Pg F.zigguratref02_Same [s3.v, s.v] w11 [.one .bool] fun (ok1 : Bool) w12 =>
J0 ok1 w12) (
J0 false w6)) (
J0 false w6)) fun (x : Bool) w13 =>
R (.bool x) w13)
def Dc.zigguratlaw10_wakes : Dc := { N := 31, va := [], vb := [], ann := [(0, 6, [(0, .one .bool)])], ext := Xt }
theorem Eq.zigguratlaw10_wakes (R : Value → TW → Prop) (w : TW) : denF Pg Dc.zigguratlaw10_wakes Go.Proofs.Try.f37 (Go.Proofs.Try.f37.body.getD .skip) [] w R = Sh.zigguratlaw10_wakes R w := by kernel_rfl
theorem Ct.zigguratlaw10_wakes {w : TW} {X : Nat → Prop} {K : Tel (fl [.one .bool]) (TW → Prop)} (h : Sh.zigguratlaw10_wakes (Rt X [.one .bool] K w) w.here) : Ct Pg F.zigguratlaw10_wakes [] w X [.one .bool] K :=
  ct_of_den (D := Dc.zigguratlaw10_wakes) (fn := Go.Proofs.Try.f37) Xt_ok follows_ok (by kernel_rfl) (by kernel_rfl) (by kernel_rfl) (Eq.mpr (Eq.zigguratlaw10_wakes _ _) h)

def Sh.zigguratlaw10_KaraMuls (t : HL [.int .i64, .int .i64, .int .i64, .int .i64, .int .i64, .int .i64, .int .i64, .int .i64, .int .i64, .int .i64, .int .i64]) (a : Sl) (b : Sl) (R : Value → TW → Prop) (w : TW) : Prop :=
nwv w fun w1 =>
cl Pg F.zigguratkeep_Cut [a.v, .int .i64 40] w1 [.one .slice] fun (s : Sl) w2 =>
cl Pg F.zigguratkeep_Cut [b.v, .int .i64 40] w2 [.one .slice] fun (s1 : Sl) w3 =>
cl Pg F.kara_New [.agg #[.int .i64 t.1, .int .i64 t.2.1, .int .i64 t.2.2.1, .int .i64 t.2.2.2.1, .int .i64 t.2.2.2.2.1, .int .i64 t.2.2.2.2.2.1, .int .i64 t.2.2.2.2.2.2.1, .int .i64 t.2.2.2.2.2.2.2.1, .int .i64 t.2.2.2.2.2.2.2.2.1, .int .i64 t.2.2.2.2.2.2.2.2.2.1, .int .i64 t.2.2.2.2.2.2.2.2.2.2.1]] w3 [.one .ptr] fun (p : Option Addr) w4 =>
cond (Option.isNone p) (
R (.bool false) w4) (
bnd (if ((s1.n : Int) : Int) > (s.n : Int) then (s1.n : Int) else (s.n : Int)) fun n =>
bnd (if ((s1.n : Int) : Int) < (s.n : Int) then (s1.n : Int) else (s.n : Int)) fun n1 =>
bnd (wi (n + 1)) fun n2 =>
divK .i64 n2 2 fun n3 =>
bnd (wi (n - n3)) fun n4 =>
bnd (wi (n1 - n3)) fun n5 =>
bnd (wi (n3 + 1)) fun n6 =>
bnd (wi (n3 + 1)) fun n7 =>
nwb w4 [.int .i64 n3, .int .i64 n3, .int .i64 n4, .int .i64 n5, .int .i64 n6, .int .i64 n7] T.t_2_int fun b1 w5 =>
nwb w5 [.slice none 0 0] T.s__2_int fun b2 w6 =>
stc w6 ⟨b2, 0, none⟩ (.slice (some ⟨b1, 0, none⟩) 3 3) fun w7 =>
cl Pg F.zigguratkeep_Lend [s.v] w7 [.one .slice] fun (s2 : Sl) w8 =>
cl Pg F.zigguratkeep_Lend [s1.v] w8 [.one .slice] fun (s3 : Sl) w9 =>
nwb w9 [.int .i64 0] T.int fun b3 w10 =>
nwb w10 [.bool false] T.bool fun b4 w11 =>
stc w11 ⟨b3, 0, none⟩ (.int .i64 0) fun w12 =>
stc w12 ⟨b4, 0, none⟩ (.bool true) fun w13 =>
cl Pg F.kara_Engine_Kara [.pointer p, s2.v, s3.v, .func (.func F.zigguratlaw10_KaraMuls_1) #[] #[.pointer (some ⟨b4, 0, none⟩), .pointer (some ⟨b3, 0, none⟩), .pointer (some ⟨b2, 0, none⟩)]] w13 [.one .slice, .one .bool] fun (s4 : Sl) (ok : Bool) w14 =>
cond (decide ((n1 : Int) ≤ n3)) (
Jn [.bool] (fun J0 =>
cond (!ok) (
ldc (.int .i64) w14 ⟨b3, 0, none⟩ fun (v : Int) =>
cond ((v : Int) == 0) (
cond (((s4.n : Int) : Int) == 0) (
cl Pg F.zigguratlaw10_wakes [] w14 [.one .bool] fun (ok1 : Bool) w15 =>
J0 ok1 w15) (
J0 false w14)) (
J0 false w14)) (
J0 false w14)) fun (x : Bool) w16 =>
R (.bool x) w16) (
Jn [.bool] (fun J1 =>
cond (!ok) (
J1 true w14) (
ldc (.int .i64) w14 ⟨b3, 0, none⟩ fun (v1 : Int) =>
cond ((v1 : Int) != 3) (
J1 true w14) (
ldc (.bool) w14 ⟨b4, 0, none⟩ fun (v2 : Bool) =>
cond (!v2) (
J1 true w14) (
cl Pg F.zigguratlaw10_from [s.v] w14 [.one .slice] fun (s5 : Sl) w17 =>
cl Pg F.zigguratlaw10_from [s1.v] w17 [.one .slice] fun (s6 : Sl) w18 =>
cl Pg F.zigguratref02_Mul [s5.v, s6.v] w18 [.one .slice] fun (s7 : Sl) w19 =>
cl Pg F.zigguratref02_Same [s7.v, s4.v] w19 [.one .bool] fun (ok2 : Bool) w20 =>
cond (!ok2) (
J1 true w20) (
nck p fun a1 =>
ldc (.ptr) w20 a1 fun (v3 : Option Addr) =>
nck v3 fun a2 =>
ldc (.ptr) w20 a2 fun (v4 : Option Addr) =>
nck v4 fun a3 =>
cl Pg F.meter_Meter_Muls [.pointer (some a3)] w20 [.one (.int .i64)] fun (r : Int) w21 =>
cond ((r : Int) != 0) (
J1 true w21) (
nck p fun a4 =>
ldc (.ptr) w21 a4 fun (v5 : Option Addr) =>
nck v5 fun a5 =>
ldc (.ptr) w21 a5 fun (v6 : Option Addr) =>
nck v6 fun a6 =>
cl Pg F.meter_Meter_Deep [.pointer (some a6)] w21 [.one (.int .i64)] fun (r1 : Int) w22 =>
cond ((r1 : Int) != 1) (
J1 true w22) (
nck p fun a7 =>
ldc (.ptr) w22 a7 fun (v7 : Option Addr) =>
nck v7 fun a8 =>
ldc (.ptr) w22 a8 fun (v8 : Option Addr) =>
nck v8 fun a9 =>
cl Pg F.meter_Meter_Now [.pointer (some a9)] w22 [.one (.int .i64)] fun (r2 : Int) w23 =>
J1 ((r2 : Int) != 0) w23))))))) fun (x1 : Bool) w24 =>
cond x1 (
R (.bool false) w24) (
cl Pg F.zigguratkeep_Spoil [s4.v] w24 [] fun w25 =>
Jn [.bool] (fun J2 =>
cl Pg F.zigguratkeep_Intact [s2.v, s.v] w25 [.one .bool] fun (ok3 : Bool) w26 =>
cond ok3 (
cl Pg F.zigguratkeep_Intact [s3.v, s1.v] w26 [.one .bool] fun (ok4 : Bool) w27 =>
cond ok4 (
cl Pg F.zigguratlaw10_wakes [] w27 [.one .bool] fun (ok5 : Bool) w28 =>
J2 ok5 w28) (
J2 false w27)) (
J2 false w26)) fun (x2 : Bool) w29 =>
R (.bool x2) w29)))
def Dc.zigguratlaw10_KaraMuls : Dc := { N := 156, va := [(3, 156)], vb := [(156, 11)], ann := [(0, 12, [(6, .one .bool)]), (0, 13, [(142, .one .bool)]), (0, 16, [(6, .one .bool)])], ext := Xt }
theorem Eq.zigguratlaw10_KaraMuls (t : HL [.int .i64, .int .i64, .int .i64, .int .i64, .int .i64, .int .i64, .int .i64, .int .i64, .int .i64, .int .i64, .int .i64]) (a : Sl) (b : Sl) (R : Value → TW → Prop) (w : TW) : denF Pg Dc.zigguratlaw10_KaraMuls Go.Proofs.Try.f41 (Go.Proofs.Try.f41.body.getD .skip) [.agg (encs [.int .i64, .int .i64, .int .i64, .int .i64, .int .i64, .int .i64, .int .i64, .int .i64, .int .i64, .int .i64, .int .i64] t).toArray, a.v, b.v] w R = Sh.zigguratlaw10_KaraMuls t a b R w := by kernel_rfl
theorem Ct.zigguratlaw10_KaraMuls {t : HL [.int .i64, .int .i64, .int .i64, .int .i64, .int .i64, .int .i64, .int .i64, .int .i64, .int .i64, .int .i64, .int .i64]} {a : Sl} {b : Sl} {w : TW} {X : Nat → Prop} {K : Tel (fl [.one .bool]) (TW → Prop)} (h : Sh.zigguratlaw10_KaraMuls t a b (Rt X [.one .bool] K w) w.here) : Ct Pg F.zigguratlaw10_KaraMuls [.agg (encs [.int .i64, .int .i64, .int .i64, .int .i64, .int .i64, .int .i64, .int .i64, .int .i64, .int .i64, .int .i64, .int .i64] t).toArray, a.v, b.v] w X [.one .bool] K :=
  ct_of_den (D := Dc.zigguratlaw10_KaraMuls) (fn := Go.Proofs.Try.f41) Xt_ok follows_ok (by kernel_rfl) (by kernel_rfl) (by kernel_rfl) (Eq.mpr (Eq.zigguratlaw10_KaraMuls t a b _ _) h)

def Sh.zigguratlaw10_KaraSquares (t : HL [.int .i64, .int .i64, .int .i64, .int .i64, .int .i64, .int .i64, .int .i64, .int .i64, .int .i64, .int .i64, .int .i64]) (a : Sl) (R : Value → TW → Prop) (w : TW) : Prop :=
nwv w fun w1 =>
cl Pg F.zigguratkeep_Cut [a.v, .int .i64 40] w1 [.one .slice] fun (s : Sl) w2 =>
cl Pg F.kara_New [.agg #[.int .i64 t.1, .int .i64 t.2.1, .int .i64 t.2.2.1, .int .i64 t.2.2.2.1, .int .i64 t.2.2.2.2.1, .int .i64 t.2.2.2.2.2.1, .int .i64 t.2.2.2.2.2.2.1, .int .i64 t.2.2.2.2.2.2.2.1, .int .i64 t.2.2.2.2.2.2.2.2.1, .int .i64 t.2.2.2.2.2.2.2.2.2.1, .int .i64 t.2.2.2.2.2.2.2.2.2.2.1]] w2 [.one .ptr] fun (p : Option Addr) w3 =>
cond (Option.isNone p) (
R (.bool false) w3) (
bnd (wi ((s.n : Int) + 1)) fun n =>
divK .i64 n 2 fun n1 =>
bnd (wi ((s.n : Int) - n1)) fun n2 =>
bnd (wi (n1 + 1)) fun n3 =>
nwb w3 [.int .i64 n1, .int .i64 n2, .int .i64 n3] T.int fun b w4 =>
nwb w4 [.slice none 0 0] T.s_int fun b1 w5 =>
stc w5 ⟨b1, 0, none⟩ (.slice (some ⟨b, 0, none⟩) 3 3) fun w6 =>
cl Pg F.zigguratkeep_Lend [s.v] w6 [.one .slice] fun (s1 : Sl) w7 =>
nwb w7 [.int .i64 0] T.int fun b2 w8 =>
nwb w8 [.bool false] T.bool fun b3 w9 =>
stc w9 ⟨b2, 0, none⟩ (.int .i64 0) fun w10 =>
stc w10 ⟨b3, 0, none⟩ (.bool true) fun w11 =>
cl Pg F.kara_Engine_KaraSqr [.pointer p, s1.v, .func (.func F.zigguratlaw10_KaraSquares_1) #[] #[.pointer (some ⟨b3, 0, none⟩), .pointer (some ⟨b2, 0, none⟩), .pointer (some ⟨b1, 0, none⟩)]] w11 [.one .slice, .one .bool] fun (s2 : Sl) (ok : Bool) w12 =>
cond (decide (((s.n : Int) : Int) < 2)) (
Jn [.bool] (fun J0 =>
cond (!ok) (
ldc (.int .i64) w12 ⟨b2, 0, none⟩ fun (v : Int) =>
cond ((v : Int) == 0) (
cond (((s2.n : Int) : Int) == 0) (
cl Pg F.zigguratlaw10_wakes [] w12 [.one .bool] fun (ok1 : Bool) w13 =>
J0 ok1 w13) (
J0 false w12)) (
J0 false w12)) (
J0 false w12)) fun (x : Bool) w14 =>
R (.bool x) w14) (
Jn [.bool] (fun J1 =>
cond ok (
ldc (.int .i64) w12 ⟨b2, 0, none⟩ fun (v1 : Int) =>
cond ((v1 : Int) == 3) (
ldc (.bool) w12 ⟨b3, 0, none⟩ fun (v2 : Bool) =>
cond v2 (
cl Pg F.zigguratlaw10_from [s.v] w12 [.one .slice] fun (s3 : Sl) w15 =>
cl Pg F.zigguratlaw10_from [s.v] w15 [.one .slice] fun (s4 : Sl) w16 =>
cl Pg F.zigguratref02_Mul [s3.v, s4.v] w16 [.one .slice] fun (s5 : Sl) w17 =>
cl Pg F.zigguratref02_Same [s5.v, s2.v] w17 [.one .bool] fun (ok2 : Bool) w18 =>
cond ok2 (
nck p fun a1 =>
ldc (.ptr) w18 a1 fun (v3 : Option Addr) =>
nck v3 fun a2 =>
ldc (.ptr) w18 a2 fun (v4 : Option Addr) =>
nck v4 fun a3 =>
cl Pg F.meter_Meter_Muls [.pointer (some a3)] w18 [.one (.int .i64)] fun (r : Int) w19 =>
cond ((r : Int) == 0) (
cl Pg F.zigguratkeep_Intact [s1.v, s.v] w19 [.one .bool] fun (ok3 : Bool) w20 =>
cond ok3 (
cl Pg F.zigguratlaw10_wakes [] w20 [.one .bool] fun (ok4 : Bool) w21 =>
J1 ok4 w21) (
J1 false w20)) (
J1 false w19)) (
J1 false w18)) (
J1 false w12)) (
J1 false w12)) (
J1 false w12)) fun (x1 : Bool) w22 =>
R (.bool x1) w22))
def Dc.zigguratlaw10_KaraSquares : Dc := { N := 95, va := [(2, 95)], vb := [(95, 11)], ann := [(0, 12, [(4, .one .bool)]), (0, 13, [(4, .one .bool)])], ext := Xt }
theorem Eq.zigguratlaw10_KaraSquares (t : HL [.int .i64, .int .i64, .int .i64, .int .i64, .int .i64, .int .i64, .int .i64, .int .i64, .int .i64, .int .i64, .int .i64]) (a : Sl) (R : Value → TW → Prop) (w : TW) : denF Pg Dc.zigguratlaw10_KaraSquares Go.Proofs.Try.f42 (Go.Proofs.Try.f42.body.getD .skip) [.agg (encs [.int .i64, .int .i64, .int .i64, .int .i64, .int .i64, .int .i64, .int .i64, .int .i64, .int .i64, .int .i64, .int .i64] t).toArray, a.v] w R = Sh.zigguratlaw10_KaraSquares t a R w := by kernel_rfl
theorem Ct.zigguratlaw10_KaraSquares {t : HL [.int .i64, .int .i64, .int .i64, .int .i64, .int .i64, .int .i64, .int .i64, .int .i64, .int .i64, .int .i64, .int .i64]} {a : Sl} {w : TW} {X : Nat → Prop} {K : Tel (fl [.one .bool]) (TW → Prop)} (h : Sh.zigguratlaw10_KaraSquares t a (Rt X [.one .bool] K w) w.here) : Ct Pg F.zigguratlaw10_KaraSquares [.agg (encs [.int .i64, .int .i64, .int .i64, .int .i64, .int .i64, .int .i64, .int .i64, .int .i64, .int .i64, .int .i64, .int .i64] t).toArray, a.v] w X [.one .bool] K :=
  ct_of_den (D := Dc.zigguratlaw10_KaraSquares) (fn := Go.Proofs.Try.f42) Xt_ok follows_ok (by kernel_rfl) (by kernel_rfl) (by kernel_rfl) (Eq.mpr (Eq.zigguratlaw10_KaraSquares t a _ _) h)

def Sh.zigguratlaw10_wakes_1 (a : Sl) (b : Sl) (cap : Addr) (R : Value → TW → Prop) (w : TW) : Prop :=
ldc (.int .i64) w cap fun (v : Int) =>
bnd (wi (10 * v)) fun n =>
bnd (wi (n + (a.n : Int))) fun n1 =>
stc w cap (.int .i64 n1) fun w1 =>
cl Pg F.zigguratlaw10_hand [a.v, b.v] w1 [.one .slice] fun (s : Sl) w2 =>
R (s.v) w2
def Dc.zigguratlaw10_wakes_1 : Dc := { N := 14, va := [], vb := [], ann := [], ext := Xt }
theorem Eq.zigguratlaw10_wakes_1 (a : Sl) (b : Sl) (cap : Addr) (R : Value → TW → Prop) (w : TW) : denF Pg Dc.zigguratlaw10_wakes_1 Go.Proofs.Try.f69 (Go.Proofs.Try.f69.body.getD .skip) [a.v, b.v, .pointer (some cap)] w R = Sh.zigguratlaw10_wakes_1 a b cap R w := by kernel_rfl
theorem Ct.zigguratlaw10_wakes_1 {a : Sl} {b : Sl} {cap : Addr} {w : TW} {X : Nat → Prop} {K : Tel (fl [.one .slice]) (TW → Prop)} (h : Sh.zigguratlaw10_wakes_1 a b cap (Rt X [.one .slice] K w) w.here) : Ct Pg F.zigguratlaw10_wakes_1 [a.v, b.v, .pointer (some cap)] w X [.one .slice] K :=
  ct_of_den (D := Dc.zigguratlaw10_wakes_1) (fn := Go.Proofs.Try.f69) Xt_ok follows_ok (by kernel_rfl) (by kernel_rfl) (by kernel_rfl) (Eq.mpr (Eq.zigguratlaw10_wakes_1 a b cap _ _) h)

def Sh.zigguratlaw10_hand (a : Sl) (b : Sl) (R : Value → TW → Prop) (w : TW) : Prop :=
cl Pg F.zigguratlaw10_from [a.v] w [.one .slice] fun (s : Sl) w1 =>
cl Pg F.zigguratlaw10_from [b.v] w1 [.one .slice] fun (s1 : Sl) w2 =>
cl Pg F.zigguratref02_Mul [s.v, s1.v] w2 [.one .slice] fun (s2 : Sl) w3 =>
cl Pg F.zigguratref02_To [s2.v] w3 [.one .slice] fun (s3 : Sl) w4 =>
R (s3.v) w4
def Dc.zigguratlaw10_hand : Dc := { N := 11, va := [], vb := [], ann := [], ext := Xt }
theorem Eq.zigguratlaw10_hand (a : Sl) (b : Sl) (R : Value → TW → Prop) (w : TW) : denF Pg Dc.zigguratlaw10_hand Go.Proofs.Try.f70 (Go.Proofs.Try.f70.body.getD .skip) [a.v, b.v] w R = Sh.zigguratlaw10_hand a b R w := by kernel_rfl
theorem Ct.zigguratlaw10_hand {a : Sl} {b : Sl} {w : TW} {X : Nat → Prop} {K : Tel (fl [.one .slice]) (TW → Prop)} (h : Sh.zigguratlaw10_hand a b (Rt X [.one .slice] K w) w.here) : Ct Pg F.zigguratlaw10_hand [a.v, b.v] w X [.one .slice] K :=
  ct_of_den (D := Dc.zigguratlaw10_hand) (fn := Go.Proofs.Try.f70) Xt_ok follows_ok (by kernel_rfl) (by kernel_rfl) (by kernel_rfl) (Eq.mpr (Eq.zigguratlaw10_hand a b _ _) h)

def Sh.zigguratlaw10_KaraMuls_1 (a : Sl) (b : Sl) (cap : Addr) (cap1 : Addr) (cap2 : Addr) (R : Value → TW → Prop) (w : TW) : Prop :=
Jn [] (fun J0 =>
ldc (.bool) w cap fun (v : Bool) =>
cond v (
ldc (.int .i64) w cap1 fun (v1 : Int) =>
cond (decide ((v1 : Int) < 3)) (
ldc (.slice) w cap2 fun (v2 : Sl) =>
ldc (.int .i64) w cap1 fun (v3 : Int) =>
ixa v2 v3 2 fun a1 =>
ixp a1 0 2 1 fun a2 =>
ldc (.int .i64) w a2 fun (v4 : Int) =>
cond (((a.n : Int) : Int) == v4) (
ldc (.slice) w cap2 fun (v5 : Sl) =>
ldc (.int .i64) w cap1 fun (v6 : Int) =>
ixa v5 v6 2 fun a3 =>
ixp a3 1 2 1 fun a4 =>
ldc (.int .i64) w a4 fun (v7 : Int) =>
stc w cap (.bool (((b.n : Int) : Int) == v7)) fun w1 =>
J0 w1) (
stc w cap (.bool false) fun w2 =>
J0 w2)) (
stc w cap (.bool false) fun w3 =>
J0 w3)) (
stc w cap (.bool false) fun w4 =>
J0 w4)) fun  w5 =>
ldc (.int .i64) w5 cap1 fun (v8 : Int) =>
bnd (wi (v8 + 1)) fun n =>
stc w5 cap1 (.int .i64 n) fun w6 =>
cl Pg F.zigguratlaw10_hand [a.v, b.v] w6 [.one .slice] fun (s : Sl) w7 =>
R (s.v) w7
def Dc.zigguratlaw10_KaraMuls_1 : Dc := { N := 38, va := [], vb := [], ann := [(0, 1, [])], ext := Xt }
theorem Eq.zigguratlaw10_KaraMuls_1 (a : Sl) (b : Sl) (cap : Addr) (cap1 : Addr) (cap2 : Addr) (R : Value → TW → Prop) (w : TW) : denF Pg Dc.zigguratlaw10_KaraMuls_1 Go.Proofs.Try.f73 (Go.Proofs.Try.f73.body.getD .skip) [a.v, b.v, .pointer (some cap), .pointer (some cap1), .pointer (some cap2)] w R = Sh.zigguratlaw10_KaraMuls_1 a b cap cap1 cap2 R w := by kernel_rfl
theorem Ct.zigguratlaw10_KaraMuls_1 {a : Sl} {b : Sl} {cap : Addr} {cap1 : Addr} {cap2 : Addr} {w : TW} {X : Nat → Prop} {K : Tel (fl [.one .slice]) (TW → Prop)} (h : Sh.zigguratlaw10_KaraMuls_1 a b cap cap1 cap2 (Rt X [.one .slice] K w) w.here) : Ct Pg F.zigguratlaw10_KaraMuls_1 [a.v, b.v, .pointer (some cap), .pointer (some cap1), .pointer (some cap2)] w X [.one .slice] K :=
  ct_of_den (D := Dc.zigguratlaw10_KaraMuls_1) (fn := Go.Proofs.Try.f73) Xt_ok follows_ok (by kernel_rfl) (by kernel_rfl) (by kernel_rfl) (Eq.mpr (Eq.zigguratlaw10_KaraMuls_1 a b cap cap1 cap2 _ _) h)

def Sh.zigguratlaw10_KaraSquares_1 (a : Sl) (cap : Addr) (cap1 : Addr) (cap2 : Addr) (R : Value → TW → Prop) (w : TW) : Prop :=
Jn [] (fun J0 =>
ldc (.bool) w cap fun (v : Bool) =>
cond v (
ldc (.int .i64) w cap1 fun (v1 : Int) =>
cond (decide ((v1 : Int) < 3)) (
ldc (.slice) w cap2 fun (v2 : Sl) =>
ldc (.int .i64) w cap1 fun (v3 : Int) =>
ixa v2 v3 1 fun a1 =>
ldc (.int .i64) w a1 fun (v4 : Int) =>
stc w cap (.bool (((a.n : Int) : Int) == v4)) fun w1 =>
J0 w1) (
stc w cap (.bool false) fun w2 =>
J0 w2)) (
stc w cap (.bool false) fun w3 =>
J0 w3)) fun  w4 =>
ldc (.int .i64) w4 cap1 fun (v5 : Int) =>
bnd (wi (v5 + 1)) fun n =>
stc w4 cap1 (.int .i64 n) fun w5 =>
cl Pg F.zigguratlaw10_hand [a.v, a.v] w5 [.one .slice] fun (s : Sl) w6 =>
R (s.v) w6
def Dc.zigguratlaw10_KaraSquares_1 : Dc := { N := 25, va := [], vb := [], ann := [(0, 1, [])], ext := Xt }
theorem Eq.zigguratlaw10_KaraSquares_1 (a : Sl) (cap : Addr) (cap1 : Addr) (cap2 : Addr) (R : Value → TW → Prop) (w : TW) : denF Pg Dc.zigguratlaw10_KaraSquares_1 Go.Proofs.Try.f76 (Go.Proofs.Try.f76.body.getD .skip) [a.v, .pointer (some cap), .pointer (some cap1), .pointer (some cap2)] w R = Sh.zigguratlaw10_KaraSquares_1 a cap cap1 cap2 R w := by kernel_rfl
theorem Ct.zigguratlaw10_KaraSquares_1 {a : Sl} {cap : Addr} {cap1 : Addr} {cap2 : Addr} {w : TW} {X : Nat → Prop} {K : Tel (fl [.one .slice]) (TW → Prop)} (h : Sh.zigguratlaw10_KaraSquares_1 a cap cap1 cap2 (Rt X [.one .slice] K w) w.here) : Ct Pg F.zigguratlaw10_KaraSquares_1 [a.v, .pointer (some cap), .pointer (some cap1), .pointer (some cap2)] w X [.one .slice] K :=
  ct_of_den (D := Dc.zigguratlaw10_KaraSquares_1) (fn := Go.Proofs.Try.f76) Xt_ok follows_ok (by kernel_rfl) (by kernel_rfl) (by kernel_rfl) (Eq.mpr (Eq.zigguratlaw10_KaraSquares_1 a cap cap1 cap2 _ _) h)
end Go.Proofs.Ytdkhilllajdnpaa.Zg
end

section
set_option maxRecDepth 100000
namespace Go.Proofs.Ytdkhilllajdnpaa.Zg
def Sh.zigguratlaw11_ToomThirds (a : Sl) (thrice : Bool) (R : Value → TW → Prop) (w : TW) : Prop :=
cl Pg F.zigguratkeep_Cut [a.v, .int .i64 30] w [.one .slice] fun (s : Sl) w1 =>
cl Pg F.zigguratlaw11_from [s.v] w1 [.one .slice] fun (s1 : Sl) w2 =>
Jn [.slice] (fun J0 =>
cond thrice (
cl Pg F.zigguratref02_Small [.int .u64 3] w2 [.one .slice] fun (s2 : Sl) w3 =>
cl Pg F.zigguratref02_Mul [s1.v, s2.v] w3 [.one .slice] fun (s3 : Sl) w4 =>
J0 s3 w4) (
J0 s1 w2)) fun (n : Sl) w5 =>
cl Pg F.zigguratref02_Small [.int .u64 3] w5 [.one .slice] fun (s4 : Sl) w6 =>
cl Pg F.zigguratref02_DivMod [n.v, s4.v] w6 [.one .slice, .one .slice] fun (s5 : Sl) (s6 : Sl) w7 =>
cl Pg F.zigguratref02_To [n.v] w7 [.one .slice] fun (s7 : Sl) w8 =>
cl Pg F.zigguratkeep_Lend [s7.v] w8 [.one .slice] fun (s8 : Sl) w9 =>
cl Pg F.toom_Third [s8.v] w9 [.one .slice, .one .bool] fun (s9 : Sl) (ok : Bool) w10 =>
cl Pg F.zigguratref02_Zero [s6.v] w10 [.one .bool] fun (ok1 : Bool) w11 =>
cond (!ok1) (
Jn [.bool] (fun J1 =>
cond (!ok) (
cond (((s9.n : Int) : Int) == 0) (
cl Pg F.zigguratkeep_Intact [s8.v, s7.v] w11 [.one .bool] fun (ok2 : Bool) w12 =>
cond ok2 (
cl Pg F.zigguratlaw11_wakes [] w12 [.one .bool] fun (ok3 : Bool) w13 =>
J1 ok3 w13) (
J1 false w12)) (
J1 false w11)) (
J1 false w11)) fun (x : Bool) w14 =>
R (.bool x) w14) (
Jn [.bool] (fun J2 =>
cond ok (
cl Pg F.zigguratref02_Same [s5.v, s9.v] w11 [.one .bool] fun (ok4 : Bool) w15 =>
cond ok4 (
cl Pg F.zigguratkeep_Intact [s8.v, s7.v] w15 [.one .bool] fun (ok5 : Bool) w16 =>
cond ok5 (
cl Pg F.zigguratlaw11_wakes [] w16 [.one .bool] fun (ok6 : Bool) w17 =>
J2 ok6 w17) (
J2 false w16)) (
J2 false w15)) (
J2 false w11)) fun (x1 : Bool) w18 =>
R (.bool x1) w18)
def Dc.zigguratlaw11_ToomThirds : Dc := { N := 67, va := [], vb := [], ann := [(1, 4, [(5, .one .slice)]), (0, 10, [(4, .one .bool)]), (0, 11, [(4, .one .bool)])], ext := Xt }
theorem Eq.zigguratlaw11_ToomThirds (a : Sl) (thrice : Bool) (R : Value → TW → Prop) (w : TW) : denF Pg Dc.zigguratlaw11_ToomThirds Go.Proofs.Try.f3 (Go.Proofs.Try.f3.body.getD .skip) [a.v, .bool thrice] w R = Sh.zigguratlaw11_ToomThirds a thrice R w := by kernel_rfl
theorem Ct.zigguratlaw11_ToomThirds {a : Sl} {thrice : Bool} {w : TW} {X : Nat → Prop} {K : Tel (fl [.one .bool]) (TW → Prop)} (h : Sh.zigguratlaw11_ToomThirds a thrice (Rt X [.one .bool] K w) w.here) : Ct Pg F.zigguratlaw11_ToomThirds [a.v, .bool thrice] w X [.one .bool] K :=
  ct_of_den (D := Dc.zigguratlaw11_ToomThirds) (fn := Go.Proofs.Try.f3) Xt_ok follows_ok (by kernel_rfl) (by kernel_rfl) (by kernel_rfl) (Eq.mpr (Eq.zigguratlaw11_ToomThirds a thrice _ _) h)

def Sh.zigguratlaw11_ToomPoints (a : Sl) (k : Int) (R : Value → TW → Prop) (w : TW) : Prop :=
cl Pg F.zigguratkeep_Cut [a.v, .int .i64 30] w [.one .slice] fun (s : Sl) w1 =>
cl Pg F.zigguratkeep_Lend [s.v] w1 [.one .slice] fun (s1 : Sl) w2 =>
cl Pg F.toom_Points [s1.v, .int .i64 k] w2 [.agg [.slice, .bool], .agg [.slice, .bool], .agg [.slice, .bool], .agg [.slice, .bool], .agg [.slice, .bool]] fun (r : Sl) (r1 : Bool) (r2 : Sl) (r3 : Bool) (r4 : Sl) (r5 : Bool) (r6 : Sl) (r7 : Bool) (r8 : Sl) (r9 : Bool) w3 =>
nwv w3 fun w4 =>
nwv w4 fun w5 =>
nwv w5 fun w6 =>
nwv w6 fun w7 =>
nwv w7 fun w8 =>
nwv w8 fun w9 =>
nwv w9 fun w10 =>
nwv w10 fun w11 =>
nwv w11 fun w12 =>
nwv w12 fun w13 =>
bnd (if (1 : Int) > k then 1 else k) fun n =>
bnd (if (16384 : Int) < n then 16384 else n) fun n1 =>
bnd (wi (64 * n1)) fun n2 =>
cl Pg F.zigguratlaw11_from [s.v] w13 [.one .slice] fun (s2 : Sl) w14 =>
cl Pg F.zigguratref02_Low [s2.v, .int .i64 n2] w14 [.one .slice] fun (s3 : Sl) w15 =>
cl Pg F.zigguratref17_Nat [s3.v] w15 [.agg [.slice, .bool]] fun (r10 : Sl) (r11 : Bool) w16 =>
nwv w16 fun w17 =>
nwv w17 fun w18 =>
cl Pg F.zigguratlaw11_from [s.v] w18 [.one .slice] fun (s4 : Sl) w19 =>
cl Pg F.zigguratref02_Shr [s4.v, .int .i64 n2] w19 [.one .slice] fun (s5 : Sl) w20 =>
cl Pg F.zigguratref02_Low [s5.v, .int .i64 n2] w20 [.one .slice] fun (s6 : Sl) w21 =>
cl Pg F.zigguratref17_Nat [s6.v] w21 [.agg [.slice, .bool]] fun (r12 : Sl) (r13 : Bool) w22 =>
nwv w22 fun w23 =>
nwv w23 fun w24 =>
cl Pg F.zigguratlaw11_from [s.v] w24 [.one .slice] fun (s7 : Sl) w25 =>
bnd (wi (2 * n2)) fun n3 =>
cl Pg F.zigguratref02_Shr [s7.v, .int .i64 n3] w25 [.one .slice] fun (s8 : Sl) w26 =>
cl Pg F.zigguratref17_Nat [s8.v] w26 [.agg [.slice, .bool]] fun (r14 : Sl) (r15 : Bool) w27 =>
nwv w27 fun w28 =>
nwv w28 fun w29 =>
cl Pg F.zigguratref17_Add [.agg #[r10.v, .bool r11], .agg #[r14.v, .bool r15]] w29 [.agg [.slice, .bool]] fun (r16 : Sl) (r17 : Bool) w30 =>
nwv w30 fun w31 =>
nwv w31 fun w32 =>
cl Pg F.zigguratref17_Small [.int .i64 2] w32 [.agg [.slice, .bool]] fun (r18 : Sl) (r19 : Bool) w33 =>
nwv w33 fun w34 =>
nwv w34 fun w35 =>
(cl Pg F.zigguratref17_Mul [.agg #[r18.v, .bool r19], .agg #[r14.v, .bool r15]] w35.drew [.agg [.slice, .bool]] fun (r20 : Sl) (r21 : Bool) w36 =>
(cl Pg F.zigguratref17_Add [.agg #[r12.v, .bool r13], .agg #[r20.v, .bool r21]] w36 [.agg [.slice, .bool]] fun (r22 : Sl) (r23 : Bool) w37 =>
(cl Pg F.zigguratref17_Mul [.agg #[r18.v, .bool r19], .agg #[r22.v, .bool r23]] w37 [.agg [.slice, .bool]] fun (r24 : Sl) (r25 : Bool) w38 =>
(cl Pg F.zigguratref17_Add [.agg #[r10.v, .bool r11], .agg #[r24.v, .bool r25]] w38 [.agg [.slice, .bool]] fun (r26 : Sl) (r27 : Bool) w39 =>
nwv w39 fun w40 =>
nwv w40 fun w41 =>
Jn [.bool] (fun J0 =>
cl Pg F.zigguratref17_To [.agg #[r10.v, .bool r11]] w41.drew [.agg [.slice, .bool]] fun (r28 : Sl) (r29 : Bool) w42 =>
cl Pg F.zigguratkeep_Int [.agg #[r.v, .bool r1], .agg #[r28.v, .bool r29]] w42 [.one .bool] fun (ok : Bool) w43 =>
cond ok (
cl Pg F.zigguratref17_Add [.agg #[r16.v, .bool r17], .agg #[r12.v, .bool r13]] w43 [.agg [.slice, .bool]] fun (r30 : Sl) (r31 : Bool) w44 =>
cl Pg F.zigguratref17_To [.agg #[r30.v, .bool r31]] w44 [.agg [.slice, .bool]] fun (r32 : Sl) (r33 : Bool) w45 =>
cl Pg F.zigguratkeep_Int [.agg #[r2.v, .bool r3], .agg #[r32.v, .bool r33]] w45 [.one .bool] fun (ok1 : Bool) w46 =>
cond ok1 (
cl Pg F.zigguratref17_Sub [.agg #[r16.v, .bool r17], .agg #[r12.v, .bool r13]] w46 [.agg [.slice, .bool]] fun (r34 : Sl) (r35 : Bool) w47 =>
cl Pg F.zigguratref17_To [.agg #[r34.v, .bool r35]] w47 [.agg [.slice, .bool]] fun (r36 : Sl) (r37 : Bool) w48 =>
cl Pg F.zigguratkeep_Int [.agg #[r4.v, .bool r5], .agg #[r36.v, .bool r37]] w48 [.one .bool] fun (ok2 : Bool) w49 =>
cond ok2 (
cl Pg F.zigguratref17_To [.agg #[r26.v, .bool r27]] w49 [.agg [.slice, .bool]] fun (r38 : Sl) (r39 : Bool) w50 =>
cl Pg F.zigguratkeep_Int [.agg #[r6.v, .bool r7], .agg #[r38.v, .bool r39]] w50 [.one .bool] fun (ok3 : Bool) w51 =>
cond ok3 (
cl Pg F.zigguratref17_To [.agg #[r14.v, .bool r15]] w51 [.agg [.slice, .bool]] fun (r40 : Sl) (r41 : Bool) w52 =>
cl Pg F.zigguratkeep_Int [.agg #[r8.v, .bool r9], .agg #[r40.v, .bool r41]] w52 [.one .bool] fun (ok4 : Bool) w53 =>
cond ok4 (
cl Pg F.zigguratkeep_Intact [s1.v, s.v] w53 [.one .bool] fun (ok5 : Bool) w54 =>
cond ok5 (
cl Pg F.zigguratlaw11_wakes [] w54 [.one .bool] fun (ok6 : Bool) w55 =>
J0 ok6 w55) (
J0 false w54)) (
J0 false w53)) (
J0 false w51)) (
J0 false w49)) (
J0 false w46)) (
J0 false w43)) fun (x : Bool) w56 =>
R (.bool x) w56) ∧
(nwv w38 fun w57 =>
cl Pg F.zigguratref17_Add [.agg #[r10.v, .bool r11], .agg #[r24.v, .bool r25]] w57 [.agg [.slice, .bool]] fun (r42 : Sl) (r43 : Bool) w58 =>
nwv w58 fun w59 =>
Jn [.bool] (fun J1 =>
cl Pg F.zigguratref17_To [.agg #[r10.v, .bool r11]] w59.drew [.agg [.slice, .bool]] fun (r44 : Sl) (r45 : Bool) w60 =>
cl Pg F.zigguratkeep_Int [.agg #[r.v, .bool r1], .agg #[r44.v, .bool r45]] w60 [.one .bool] fun (ok7 : Bool) w61 =>
cond ok7 (
cl Pg F.zigguratref17_Add [.agg #[r16.v, .bool r17], .agg #[r12.v, .bool r13]] w61 [.agg [.slice, .bool]] fun (r46 : Sl) (r47 : Bool) w62 =>
cl Pg F.zigguratref17_To [.agg #[r46.v, .bool r47]] w62 [.agg [.slice, .bool]] fun (r48 : Sl) (r49 : Bool) w63 =>
cl Pg F.zigguratkeep_Int [.agg #[r2.v, .bool r3], .agg #[r48.v, .bool r49]] w63 [.one .bool] fun (ok8 : Bool) w64 =>
cond ok8 (
cl Pg F.zigguratref17_Sub [.agg #[r16.v, .bool r17], .agg #[r12.v, .bool r13]] w64 [.agg [.slice, .bool]] fun (r50 : Sl) (r51 : Bool) w65 =>
cl Pg F.zigguratref17_To [.agg #[r50.v, .bool r51]] w65 [.agg [.slice, .bool]] fun (r52 : Sl) (r53 : Bool) w66 =>
cl Pg F.zigguratkeep_Int [.agg #[r4.v, .bool r5], .agg #[r52.v, .bool r53]] w66 [.one .bool] fun (ok9 : Bool) w67 =>
cond ok9 (
cl Pg F.zigguratref17_To [.agg #[r42.v, .bool r43]] w67 [.agg [.slice, .bool]] fun (r54 : Sl) (r55 : Bool) w68 =>
cl Pg F.zigguratkeep_Int [.agg #[r6.v, .bool r7], .agg #[r54.v, .bool r55]] w68 [.one .bool] fun (ok10 : Bool) w69 =>
cond ok10 (
cl Pg F.zigguratref17_To [.agg #[r14.v, .bool r15]] w69 [.agg [.slice, .bool]] fun (r56 : Sl) (r57 : Bool) w70 =>
cl Pg F.zigguratkeep_Int [.agg #[r8.v, .bool r9], .agg #[r56.v, .bool r57]] w70 [.one .bool] fun (ok11 : Bool) w71 =>
cond ok11 (
cl Pg F.zigguratkeep_Intact [s1.v, s.v] w71 [.one .bool] fun (ok12 : Bool) w72 =>
cond ok12 (
cl Pg F.zigguratlaw11_wakes [] w72 [.one .bool] fun (ok13 : Bool) w73 =>
J1 ok13 w73) (
J1 false w72)) (
J1 false w71)) (
J1 false w69)) (
J1 false w67)) (
J1 false w64)) (
J1 false w61)) fun (x1 : Bool) w74 =>
R (.bool x1) w74)) ∧
(nwv w37 fun w75 =>
cl Pg F.zigguratref17_Mul [.agg #[r18.v, .bool r19], .agg #[r22.v, .bool r23]] w75 [.agg [.slice, .bool]] fun (r58 : Sl) (r59 : Bool) w76 =>
cl Pg F.zigguratref17_Add [.agg #[r10.v, .bool r11], .agg #[r58.v, .bool r59]] w76 [.agg [.slice, .bool]] fun (r60 : Sl) (r61 : Bool) w77 =>
nwv w77 fun w78 =>
Jn [.bool] (fun J2 =>
cl Pg F.zigguratref17_To [.agg #[r10.v, .bool r11]] w78.drew [.agg [.slice, .bool]] fun (r62 : Sl) (r63 : Bool) w79 =>
cl Pg F.zigguratkeep_Int [.agg #[r.v, .bool r1], .agg #[r62.v, .bool r63]] w79 [.one .bool] fun (ok14 : Bool) w80 =>
cond ok14 (
cl Pg F.zigguratref17_Add [.agg #[r16.v, .bool r17], .agg #[r12.v, .bool r13]] w80 [.agg [.slice, .bool]] fun (r64 : Sl) (r65 : Bool) w81 =>
cl Pg F.zigguratref17_To [.agg #[r64.v, .bool r65]] w81 [.agg [.slice, .bool]] fun (r66 : Sl) (r67 : Bool) w82 =>
cl Pg F.zigguratkeep_Int [.agg #[r2.v, .bool r3], .agg #[r66.v, .bool r67]] w82 [.one .bool] fun (ok15 : Bool) w83 =>
cond ok15 (
cl Pg F.zigguratref17_Sub [.agg #[r16.v, .bool r17], .agg #[r12.v, .bool r13]] w83 [.agg [.slice, .bool]] fun (r68 : Sl) (r69 : Bool) w84 =>
cl Pg F.zigguratref17_To [.agg #[r68.v, .bool r69]] w84 [.agg [.slice, .bool]] fun (r70 : Sl) (r71 : Bool) w85 =>
cl Pg F.zigguratkeep_Int [.agg #[r4.v, .bool r5], .agg #[r70.v, .bool r71]] w85 [.one .bool] fun (ok16 : Bool) w86 =>
cond ok16 (
cl Pg F.zigguratref17_To [.agg #[r60.v, .bool r61]] w86 [.agg [.slice, .bool]] fun (r72 : Sl) (r73 : Bool) w87 =>
cl Pg F.zigguratkeep_Int [.agg #[r6.v, .bool r7], .agg #[r72.v, .bool r73]] w87 [.one .bool] fun (ok17 : Bool) w88 =>
cond ok17 (
cl Pg F.zigguratref17_To [.agg #[r14.v, .bool r15]] w88 [.agg [.slice, .bool]] fun (r74 : Sl) (r75 : Bool) w89 =>
cl Pg F.zigguratkeep_Int [.agg #[r8.v, .bool r9], .agg #[r74.v, .bool r75]] w89 [.one .bool] fun (ok18 : Bool) w90 =>
cond ok18 (
cl Pg F.zigguratkeep_Intact [s1.v, s.v] w90 [.one .bool] fun (ok19 : Bool) w91 =>
cond ok19 (
cl Pg F.zigguratlaw11_wakes [] w91 [.one .bool] fun (ok20 : Bool) w92 =>
J2 ok20 w92) (
J2 false w91)) (
J2 false w90)) (
J2 false w88)) (
J2 false w86)) (
J2 false w83)) (
J2 false w80)) fun (x2 : Bool) w93 =>
R (.bool x2) w93)) ∧
(nwv w36 fun w94 =>
cl Pg F.zigguratref17_Add [.agg #[r12.v, .bool r13], .agg #[r20.v, .bool r21]] w94 [.agg [.slice, .bool]] fun (r76 : Sl) (r77 : Bool) w95 =>
cl Pg F.zigguratref17_Mul [.agg #[r18.v, .bool r19], .agg #[r76.v, .bool r77]] w95 [.agg [.slice, .bool]] fun (r78 : Sl) (r79 : Bool) w96 =>
cl Pg F.zigguratref17_Add [.agg #[r10.v, .bool r11], .agg #[r78.v, .bool r79]] w96 [.agg [.slice, .bool]] fun (r80 : Sl) (r81 : Bool) w97 =>
nwv w97 fun w98 =>
Jn [.bool] (fun J3 =>
cl Pg F.zigguratref17_To [.agg #[r10.v, .bool r11]] w98.drew [.agg [.slice, .bool]] fun (r82 : Sl) (r83 : Bool) w99 =>
cl Pg F.zigguratkeep_Int [.agg #[r.v, .bool r1], .agg #[r82.v, .bool r83]] w99 [.one .bool] fun (ok21 : Bool) w100 =>
cond ok21 (
cl Pg F.zigguratref17_Add [.agg #[r16.v, .bool r17], .agg #[r12.v, .bool r13]] w100 [.agg [.slice, .bool]] fun (r84 : Sl) (r85 : Bool) w101 =>
cl Pg F.zigguratref17_To [.agg #[r84.v, .bool r85]] w101 [.agg [.slice, .bool]] fun (r86 : Sl) (r87 : Bool) w102 =>
cl Pg F.zigguratkeep_Int [.agg #[r2.v, .bool r3], .agg #[r86.v, .bool r87]] w102 [.one .bool] fun (ok22 : Bool) w103 =>
cond ok22 (
cl Pg F.zigguratref17_Sub [.agg #[r16.v, .bool r17], .agg #[r12.v, .bool r13]] w103 [.agg [.slice, .bool]] fun (r88 : Sl) (r89 : Bool) w104 =>
cl Pg F.zigguratref17_To [.agg #[r88.v, .bool r89]] w104 [.agg [.slice, .bool]] fun (r90 : Sl) (r91 : Bool) w105 =>
cl Pg F.zigguratkeep_Int [.agg #[r4.v, .bool r5], .agg #[r90.v, .bool r91]] w105 [.one .bool] fun (ok23 : Bool) w106 =>
cond ok23 (
cl Pg F.zigguratref17_To [.agg #[r80.v, .bool r81]] w106 [.agg [.slice, .bool]] fun (r92 : Sl) (r93 : Bool) w107 =>
cl Pg F.zigguratkeep_Int [.agg #[r6.v, .bool r7], .agg #[r92.v, .bool r93]] w107 [.one .bool] fun (ok24 : Bool) w108 =>
cond ok24 (
cl Pg F.zigguratref17_To [.agg #[r14.v, .bool r15]] w108 [.agg [.slice, .bool]] fun (r94 : Sl) (r95 : Bool) w109 =>
cl Pg F.zigguratkeep_Int [.agg #[r8.v, .bool r9], .agg #[r94.v, .bool r95]] w109 [.one .bool] fun (ok25 : Bool) w110 =>
cond ok25 (
cl Pg F.zigguratkeep_Intact [s1.v, s.v] w110 [.one .bool] fun (ok26 : Bool) w111 =>
cond ok26 (
cl Pg F.zigguratlaw11_wakes [] w111 [.one .bool] fun (ok27 : Bool) w112 =>
J3 ok27 w112) (
J3 false w111)) (
J3 false w110)) (
J3 false w108)) (
J3 false w106)) (
J3 false w103)) (
J3 false w100)) fun (x3 : Bool) w113 =>
R (.bool x3) w113)) ∧
(nwv w35.drew fun w114 =>
cl Pg F.zigguratref17_Mul [.agg #[r18.v, .bool r19], .agg #[r14.v, .bool r15]] w114 [.agg [.slice, .bool]] fun (r96 : Sl) (r97 : Bool) w115 =>
cl Pg F.zigguratref17_Add [.agg #[r12.v, .bool r13], .agg #[r96.v, .bool r97]] w115 [.agg [.slice, .bool]] fun (r98 : Sl) (r99 : Bool) w116 =>
cl Pg F.zigguratref17_Mul [.agg #[r18.v, .bool r19], .agg #[r98.v, .bool r99]] w116 [.agg [.slice, .bool]] fun (r100 : Sl) (r101 : Bool) w117 =>
cl Pg F.zigguratref17_Add [.agg #[r10.v, .bool r11], .agg #[r100.v, .bool r101]] w117 [.agg [.slice, .bool]] fun (r102 : Sl) (r103 : Bool) w118 =>
nwv w118 fun w119 =>
Jn [.bool] (fun J4 =>
cl Pg F.zigguratref17_To [.agg #[r10.v, .bool r11]] w119.drew [.agg [.slice, .bool]] fun (r104 : Sl) (r105 : Bool) w120 =>
cl Pg F.zigguratkeep_Int [.agg #[r.v, .bool r1], .agg #[r104.v, .bool r105]] w120 [.one .bool] fun (ok28 : Bool) w121 =>
cond ok28 (
cl Pg F.zigguratref17_Add [.agg #[r16.v, .bool r17], .agg #[r12.v, .bool r13]] w121 [.agg [.slice, .bool]] fun (r106 : Sl) (r107 : Bool) w122 =>
cl Pg F.zigguratref17_To [.agg #[r106.v, .bool r107]] w122 [.agg [.slice, .bool]] fun (r108 : Sl) (r109 : Bool) w123 =>
cl Pg F.zigguratkeep_Int [.agg #[r2.v, .bool r3], .agg #[r108.v, .bool r109]] w123 [.one .bool] fun (ok29 : Bool) w124 =>
cond ok29 (
cl Pg F.zigguratref17_Sub [.agg #[r16.v, .bool r17], .agg #[r12.v, .bool r13]] w124 [.agg [.slice, .bool]] fun (r110 : Sl) (r111 : Bool) w125 =>
cl Pg F.zigguratref17_To [.agg #[r110.v, .bool r111]] w125 [.agg [.slice, .bool]] fun (r112 : Sl) (r113 : Bool) w126 =>
cl Pg F.zigguratkeep_Int [.agg #[r4.v, .bool r5], .agg #[r112.v, .bool r113]] w126 [.one .bool] fun (ok30 : Bool) w127 =>
cond ok30 (
cl Pg F.zigguratref17_To [.agg #[r102.v, .bool r103]] w127 [.agg [.slice, .bool]] fun (r114 : Sl) (r115 : Bool) w128 =>
cl Pg F.zigguratkeep_Int [.agg #[r6.v, .bool r7], .agg #[r114.v, .bool r115]] w128 [.one .bool] fun (ok31 : Bool) w129 =>
cond ok31 (
cl Pg F.zigguratref17_To [.agg #[r14.v, .bool r15]] w129 [.agg [.slice, .bool]] fun (r116 : Sl) (r117 : Bool) w130 =>
cl Pg F.zigguratkeep_Int [.agg #[r8.v, .bool r9], .agg #[r116.v, .bool r117]] w130 [.one .bool] fun (ok32 : Bool) w131 =>
cond ok32 (
cl Pg F.zigguratkeep_Intact [s1.v, s.v] w131 [.one .bool] fun (ok33 : Bool) w132 =>
cond ok33 (
cl Pg F.zigguratlaw11_wakes [] w132 [.one .bool] fun (ok34 : Bool) w133 =>
J4 ok34 w133) (
J4 false w132)) (
J4 false w131)) (
J4 false w129)) (
J4 false w127)) (
J4 false w124)) (
J4 false w121)) fun (x4 : Bool) w134 =>
R (.bool x4) w134)
def Dc.zigguratlaw11_ToomPoints : Dc := { N := 106, va := [(6, 106), (7, 108), (8, 110), (9, 112), (10, 114), (12, 116), (13, 118), (14, 120), (15, 122), (16, 124), (17, 126)], vb := [(106, 2), (108, 2), (110, 2), (112, 2), (114, 2), (116, 2), (118, 2), (120, 2), (122, 2), (124, 2), (126, 2)], ann := [(0, 11, [(4, .one .bool)])], ext := Xt }
theorem Eq.zigguratlaw11_ToomPoints (a : Sl) (k : Int) (R : Value → TW → Prop) (w : TW) : denF Pg Dc.zigguratlaw11_ToomPoints Go.Proofs.Try.f4 (Go.Proofs.Try.f4.body.getD .skip) [a.v, .int .i64 k] w R = Sh.zigguratlaw11_ToomPoints a k R w := by kernel_rfl
theorem Ct.zigguratlaw11_ToomPoints {a : Sl} {k : Int} {w : TW} {X : Nat → Prop} {K : Tel (fl [.one .bool]) (TW → Prop)} (h : Sh.zigguratlaw11_ToomPoints a k (Rt X [.one .bool] K w) w.here) : Ct Pg F.zigguratlaw11_ToomPoints [a.v, .int .i64 k] w X [.one .bool] K :=
  ct_of_den (D := Dc.zigguratlaw11_ToomPoints) (fn := Go.Proofs.Try.f4) Xt_ok follows_ok (by kernel_rfl) (by kernel_rfl) (by kernel_rfl) (Eq.mpr (Eq.zigguratlaw11_ToomPoints a k _ _) h)

def Sh.zigguratlaw11_ToomBelow (t : HL [.int .i64, .int .i64, .int .i64, .int .i64, .int .i64, .int .i64, .int .i64, .int .i64, .int .i64, .int .i64, .int .i64]) (a : Sl) (b : Sl) (R : Value → TW → Prop) (w : TW) : Prop :=
nwv w fun w1 =>
cl Pg F.zigguratkeep_Cut [a.v, .int .i64 24] w1 [.one .slice] fun (s : Sl) w2 =>
cl Pg F.zigguratkeep_Cut [b.v, .int .i64 24] w2 [.one .slice] fun (s1 : Sl) w3 =>
cl Pg F.toom_New [.agg #[.int .i64 t.1, .int .i64 t.2.1, .int .i64 t.2.2.1, .int .i64 t.2.2.2.1, .int .i64 t.2.2.2.2.1, .int .i64 t.2.2.2.2.2.1, .int .i64 t.2.2.2.2.2.2.1, .int .i64 t.2.2.2.2.2.2.2.1, .int .i64 t.2.2.2.2.2.2.2.2.1, .int .i64 t.2.2.2.2.2.2.2.2.2.1, .int .i64 t.2.2.2.2.2.2.2.2.2.2.1]] w3 [.one .ptr] fun (p : Option Addr) w4 =>
cond (Option.isNone p) (
R (.bool false) w4) (
cl Pg F.zigguratlaw11_from [s.v] w4 [.one .slice] fun (s2 : Sl) w5 =>
cl Pg F.zigguratlaw11_from [s1.v] w5 [.one .slice] fun (s3 : Sl) w6 =>
cl Pg F.zigguratref02_Mul [s2.v, s3.v] w6 [.one .slice] fun (s4 : Sl) w7 =>
Jn [.bool] (fun J0 =>
nck p fun a1 =>
ldc (.ptr) w7 a1 fun (v : Option Addr) =>
cl Pg F.kara_Engine_Both [.pointer v, s.v, s1.v] w7 [.one .slice] fun (s5 : Sl) w8 =>
cl Pg F.zigguratref02_Same [s4.v, s5.v] w8 [.one .bool] fun (ok : Bool) w9 =>
cond ok (
nck p fun a2 =>
ldc (.ptr) w9 a2 fun (v1 : Option Addr) =>
nck v1 fun a3 =>
ldc (.ptr) w9 a3 fun (v2 : Option Addr) =>
cl Pg F.school_Engine_Mul [.pointer v2, s.v, s1.v] w9 [.one .slice] fun (s6 : Sl) w10 =>
cl Pg F.zigguratref02_Same [s4.v, s6.v] w10 [.one .bool] fun (ok1 : Bool) w11 =>
cond ok1 (
nck p fun a4 =>
ldc (.ptr) w11 a4 fun (v3 : Option Addr) =>
nck v3 fun a5 =>
ldc (.ptr) w11 a5 fun (v4 : Option Addr) =>
cl Pg F.school_Engine_Mul [.pointer v4, s1.v, s.v] w11 [.one .slice] fun (s7 : Sl) w12 =>
cl Pg F.zigguratref02_Same [s4.v, s7.v] w12 [.one .bool] fun (ok2 : Bool) w13 =>
cond ok2 (
cl Pg F.zigguratlaw11_wakes [] w13 [.one .bool] fun (ok3 : Bool) w14 =>
J0 ok3 w14) (
J0 false w13)) (
J0 false w11)) (
J0 false w9)) fun (x : Bool) w15 =>
R (.bool x) w15)
def Dc.zigguratlaw11_ToomBelow : Dc := { N := 62, va := [(3, 62)], vb := [(62, 11)], ann := [(0, 6, [(6, .one .bool)])], ext := Xt }
theorem Eq.zigguratlaw11_ToomBelow (t : HL [.int .i64, .int .i64, .int .i64, .int .i64, .int .i64, .int .i64, .int .i64, .int .i64, .int .i64, .int .i64, .int .i64]) (a : Sl) (b : Sl) (R : Value → TW → Prop) (w : TW) : denF Pg Dc.zigguratlaw11_ToomBelow Go.Proofs.Try.f6 (Go.Proofs.Try.f6.body.getD .skip) [.agg (encs [.int .i64, .int .i64, .int .i64, .int .i64, .int .i64, .int .i64, .int .i64, .int .i64, .int .i64, .int .i64, .int .i64] t).toArray, a.v, b.v] w R = Sh.zigguratlaw11_ToomBelow t a b R w := by kernel_rfl
theorem Ct.zigguratlaw11_ToomBelow {t : HL [.int .i64, .int .i64, .int .i64, .int .i64, .int .i64, .int .i64, .int .i64, .int .i64, .int .i64, .int .i64, .int .i64]} {a : Sl} {b : Sl} {w : TW} {X : Nat → Prop} {K : Tel (fl [.one .bool]) (TW → Prop)} (h : Sh.zigguratlaw11_ToomBelow t a b (Rt X [.one .bool] K w) w.here) : Ct Pg F.zigguratlaw11_ToomBelow [.agg (encs [.int .i64, .int .i64, .int .i64, .int .i64, .int .i64, .int .i64, .int .i64, .int .i64, .int .i64, .int .i64, .int .i64] t).toArray, a.v, b.v] w X [.one .bool] K :=
  ct_of_den (D := Dc.zigguratlaw11_ToomBelow) (fn := Go.Proofs.Try.f6) Xt_ok follows_ok (by kernel_rfl) (by kernel_rfl) (by kernel_rfl) (Eq.mpr (Eq.zigguratlaw11_ToomBelow t a b _ _) h)

def Sh.zigguratlaw11_ToomGreat (t : HL [.int .i64, .int .i64, .int .i64, .int .i64, .int .i64, .int .i64, .int .i64, .int .i64, .int .i64, .int .i64, .int .i64]) (n : Int) (m : Int) (at0 : Int) (R : Value → TW → Prop) (w : TW) : Prop :=
nwv w fun w1 =>
cl Pg F.zigguratkeep_Within [.int .i64 n, .int .i64 40] w1 [.one (.int .i64)] fun (r : Int) w2 =>
bnd (wi (3 + r)) fun n1 =>
cl Pg F.zigguratkeep_Within [.int .i64 m, .int .i64 40] w2 [.one (.int .i64)] fun (r1 : Int) w3 =>
bnd (wi (3 + r1)) fun n2 =>
Jn [.slice, .slice, .slice, .int .i64, .int .i64, .int .i64, .int .i64, .int .i64, .int .i64, .int .i64, .int .i64, .int .i64, .int .i64, .int .i64] (fun J0 =>
(mks w3.drew n1 n1 T.uint64 8 [.int .u64 0] fun s w4 =>
(mks w4 n2 n2 T.uint64 8 [.int .u64 0] fun s1 w5 =>
mks w5 n1 n1 T.uint64 8 [.int .u64 0] fun s2 w6 =>
J0 s s1 s2 t.1 t.2.1 t.2.2.1 t.2.2.2.1 t.2.2.2.2.1 t.2.2.2.2.2.1 t.2.2.2.2.2.2.1 t.2.2.2.2.2.2.2.1 t.2.2.2.2.2.2.2.2.1 t.2.2.2.2.2.2.2.2.2.1 t.2.2.2.2.2.2.2.2.2.2.1 w6) ∧
(mks w4 n1 n1 T.uint64 8 [.int .u64 0] fun s3 w7 =>
mks w7 n2 n2 T.uint64 8 [.int .u64 0] fun s4 w8 =>
J0 s s4 s3 t.1 t.2.1 t.2.2.1 t.2.2.2.1 t.2.2.2.2.1 t.2.2.2.2.2.1 t.2.2.2.2.2.2.1 t.2.2.2.2.2.2.2.1 t.2.2.2.2.2.2.2.2.1 t.2.2.2.2.2.2.2.2.2.1 t.2.2.2.2.2.2.2.2.2.2.1 w8)) ∧
(mks w3.drew n2 n2 T.uint64 8 [.int .u64 0] fun s5 w9 =>
(mks w9 n1 n1 T.uint64 8 [.int .u64 0] fun s6 w10 =>
mks w10 n1 n1 T.uint64 8 [.int .u64 0] fun s7 w11 =>
J0 s6 s5 s7 t.1 t.2.1 t.2.2.1 t.2.2.2.1 t.2.2.2.2.1 t.2.2.2.2.2.1 t.2.2.2.2.2.2.1 t.2.2.2.2.2.2.2.1 t.2.2.2.2.2.2.2.2.1 t.2.2.2.2.2.2.2.2.2.1 t.2.2.2.2.2.2.2.2.2.2.1 w11) ∧
(mks w9 n1 n1 T.uint64 8 [.int .u64 0] fun s8 w12 =>
mks w12 n1 n1 T.uint64 8 [.int .u64 0] fun s9 w13 =>
J0 s9 s5 s8 t.1 t.2.1 t.2.2.1 t.2.2.2.1 t.2.2.2.2.1 t.2.2.2.2.2.1 t.2.2.2.2.2.2.1 t.2.2.2.2.2.2.2.1 t.2.2.2.2.2.2.2.2.1 t.2.2.2.2.2.2.2.2.2.1 t.2.2.2.2.2.2.2.2.2.2.1 w13)) ∧
(mks w3.drew n1 n1 T.uint64 8 [.int .u64 0] fun s10 w14 =>
(mks w14 n1 n1 T.uint64 8 [.int .u64 0] fun s11 w15 =>
mks w15 n2 n2 T.uint64 8 [.int .u64 0] fun s12 w16 =>
J0 s11 s12 s10 t.1 t.2.1 t.2.2.1 t.2.2.2.1 t.2.2.2.2.1 t.2.2.2.2.2.1 t.2.2.2.2.2.2.1 t.2.2.2.2.2.2.2.1 t.2.2.2.2.2.2.2.2.1 t.2.2.2.2.2.2.2.2.2.1 t.2.2.2.2.2.2.2.2.2.2.1 w16) ∧
(mks w14 n2 n2 T.uint64 8 [.int .u64 0] fun s13 w17 =>
mks w17 n1 n1 T.uint64 8 [.int .u64 0] fun s14 w18 =>
J0 s14 s13 s10 t.1 t.2.1 t.2.2.1 t.2.2.2.1 t.2.2.2.2.1 t.2.2.2.2.2.1 t.2.2.2.2.2.2.1 t.2.2.2.2.2.2.2.1 t.2.2.2.2.2.2.2.2.1 t.2.2.2.2.2.2.2.2.2.1 t.2.2.2.2.2.2.2.2.2.2.1 w18))) fun (a : Sl) (b : Sl) (c : Sl) (t1 : Int) (t2 : Int) (t3 : Int) (t4 : Int) (t5 : Int) (t6 : Int) (t7 : Int) (t8 : Int) (t9 : Int) (t10 : Int) (t11 : Int) w19 =>
Jn [.int .i64, .int .i64, .int .i64, .int .i64, .int .i64, .int .i64, .int .i64, .int .i64, .int .i64, .int .i64, .int .i64] (fun J1 =>
Lp [.int .i64, .int .i64, .int .i64, .int .i64, .int .i64, .int .i64, .int .i64, .int .i64, .int .i64, .int .i64, .int .i64, .int .i64] (fun (i : Int) (t12 : Int) (t13 : Int) (t14 : Int) (t15 : Int) (t16 : Int) (t17 : Int) (t18 : Int) (t19 : Int) (t20 : Int) (t21 : Int) (t22 : Int) w20 C0 =>
cond (decide ((i : Int) < n1)) (
ixa a i 1 fun a1 =>
stc w20 a1 (.int .u64 18446744073709551615) fun w21 =>
bnd (wi (i + 1)) fun n3 =>
C0 n3 t12 t13 t14 t15 t16 t17 t18 t19 t20 t21 t22 w21) (
J1 t12 t13 t14 t15 t16 t17 t18 t19 t20 t21 t22 w20)) 0 t1 t2 t3 t4 t5 t6 t7 t8 t9 t10 t11 w19) fun (t23 : Int) (t24 : Int) (t25 : Int) (t26 : Int) (t27 : Int) (t28 : Int) (t29 : Int) (t30 : Int) (t31 : Int) (t32 : Int) (t33 : Int) w22 =>
Jn [.int .i64, .int .i64, .int .i64, .int .i64, .int .i64, .int .i64, .int .i64, .int .i64, .int .i64, .int .i64, .int .i64] (fun J2 =>
Lp [.int .i64, .int .i64, .int .i64, .int .i64, .int .i64, .int .i64, .int .i64, .int .i64, .int .i64, .int .i64, .int .i64, .int .i64] (fun (i1 : Int) (t34 : Int) (t35 : Int) (t36 : Int) (t37 : Int) (t38 : Int) (t39 : Int) (t40 : Int) (t41 : Int) (t42 : Int) (t43 : Int) (t44 : Int) w23 C1 =>
cond (decide ((i1 : Int) < n2)) (
ixa b i1 1 fun a2 =>
stc w23 a2 (.int .u64 18446744073709551615) fun w24 =>
bnd (wi (i1 + 1)) fun n4 =>
C1 n4 t34 t35 t36 t37 t38 t39 t40 t41 t42 t43 t44 w24) (
J2 t34 t35 t36 t37 t38 t39 t40 t41 t42 t43 t44 w23)) 0 t23 t24 t25 t26 t27 t28 t29 t30 t31 t32 t33 w22) fun (t45 : Int) (t46 : Int) (t47 : Int) (t48 : Int) (t49 : Int) (t50 : Int) (t51 : Int) (t52 : Int) (t53 : Int) (t54 : Int) (t55 : Int) w25 =>
cl Pg F.zigguratkeep_Within [.int .i64 at0, .int .i64 n1] w25 [.one (.int .i64)] fun (r2 : Int) w26 =>
ixa c r2 1 fun a3 =>
stc w26 a3 (.int .u64 9223372036854775808) fun w27 =>
Jn [.bool] (fun J3 =>
cl Pg F.zigguratlaw11_ToomMuls [.agg #[.int .i64 t45, .int .i64 t46, .int .i64 t47, .int .i64 t48, .int .i64 t49, .int .i64 t50, .int .i64 t51, .int .i64 t52, .int .i64 t53, .int .i64 t54, .int .i64 t55], a.v, b.v] w27 [.one .bool] fun (ok : Bool) w28 =>
cond ok (
cl Pg F.zigguratlaw11_ToomMuls [.agg #[.int .i64 t45, .int .i64 t46, .int .i64 t47, .int .i64 t48, .int .i64 t49, .int .i64 t50, .int .i64 t51, .int .i64 t52, .int .i64 t53, .int .i64 t54, .int .i64 t55], c.v, b.v] w28 [.one .bool] fun (ok1 : Bool) w29 =>
cond ok1 (
cl Pg F.zigguratlaw11_ToomMuls [.agg #[.int .i64 t45, .int .i64 t46, .int .i64 t47, .int .i64 t48, .int .i64 t49, .int .i64 t50, .int .i64 t51, .int .i64 t52, .int .i64 t53, .int .i64 t54, .int .i64 t55], c.v, a.v] w29 [.one .bool] fun (ok2 : Bool) w30 =>
cond ok2 (
cl Pg F.zigguratlaw11_ToomSquares [.agg #[.int .i64 t45, .int .i64 t46, .int .i64 t47, .int .i64 t48, .int .i64 t49, .int .i64 t50, .int .i64 t51, .int .i64 t52, .int .i64 t53, .int .i64 t54, .int .i64 t55], a.v] w30 [.one .bool] fun (ok3 : Bool) w31 =>
cond ok3 (
cl Pg F.zigguratlaw11_ToomSquares [.agg #[.int .i64 t45, .int .i64 t46, .int .i64 t47, .int .i64 t48, .int .i64 t49, .int .i64 t50, .int .i64 t51, .int .i64 t52, .int .i64 t53, .int .i64 t54, .int .i64 t55], c.v] w31 [.one .bool] fun (ok4 : Bool) w32 =>
cond ok4 (
cl Pg F.zigguratlaw11_wakes [] w32 [.one .bool] fun (ok5 : Bool) w33 =>
J3 ok5 w33) (
J3 false w32)) (
J3 false w31)) (
J3 false w30)) (
J3 false w29)) (
J3 false w28)) fun (x : Bool) w34 =>
R (.bool x) w34
def Dc.zigguratlaw11_ToomGreat : Dc := { N := 76, va := [(4, 76)], vb := [(76, 11)], ann := [(0, 2, [(9, .one .slice), (10, .one .slice), (11, .one .slice), (76, .one (.int .i64)), (77, .one (.int .i64)), (78, .one (.int .i64)), (79, .one (.int .i64)), (80, .one (.int .i64)), (81, .one (.int .i64)), (82, .one (.int .i64)), (83, .one (.int .i64)), (84, .one (.int .i64)), (85, .one (.int .i64)), (86, .one (.int .i64))]), (2, 0, [(76, .one (.int .i64)), (77, .one (.int .i64)), (78, .one (.int .i64)), (79, .one (.int .i64)), (80, .one (.int .i64)), (81, .one (.int .i64)), (82, .one (.int .i64)), (83, .one (.int .i64)), (84, .one (.int .i64)), (85, .one (.int .i64)), (86, .one (.int .i64))]), (3, 4, [(12, .one (.int .i64)), (76, .one (.int .i64)), (77, .one (.int .i64)), (78, .one (.int .i64)), (79, .one (.int .i64)), (80, .one (.int .i64)), (81, .one (.int .i64)), (82, .one (.int .i64)), (83, .one (.int .i64)), (84, .one (.int .i64)), (85, .one (.int .i64)), (86, .one (.int .i64))]), (2, 2, [(76, .one (.int .i64)), (77, .one (.int .i64)), (78, .one (.int .i64)), (79, .one (.int .i64)), (80, .one (.int .i64)), (81, .one (.int .i64)), (82, .one (.int .i64)), (83, .one (.int .i64)), (84, .one (.int .i64)), (85, .one (.int .i64)), (86, .one (.int .i64))]), (3, 8, [(13, .one (.int .i64)), (76, .one (.int .i64)), (77, .one (.int .i64)), (78, .one (.int .i64)), (79, .one (.int .i64)), (80, .one (.int .i64)), (81, .one (.int .i64)), (82, .one (.int .i64)), (83, .one (.int .i64)), (84, .one (.int .i64)), (85, .one (.int .i64)), (86, .one (.int .i64))]), (0, 12, [(8, .one .bool)])], ext := Xt }
theorem Eq.zigguratlaw11_ToomGreat (t : HL [.int .i64, .int .i64, .int .i64, .int .i64, .int .i64, .int .i64, .int .i64, .int .i64, .int .i64, .int .i64, .int .i64]) (n : Int) (m : Int) (at0 : Int) (R : Value → TW → Prop) (w : TW) : denF Pg Dc.zigguratlaw11_ToomGreat Go.Proofs.Try.f9 (Go.Proofs.Try.f9.body.getD .skip) [.agg (encs [.int .i64, .int .i64, .int .i64, .int .i64, .int .i64, .int .i64, .int .i64, .int .i64, .int .i64, .int .i64, .int .i64] t).toArray, .int .i64 n, .int .i64 m, .int .i64 at0] w R = Sh.zigguratlaw11_ToomGreat t n m at0 R w := by kernel_rfl
theorem Ct.zigguratlaw11_ToomGreat {t : HL [.int .i64, .int .i64, .int .i64, .int .i64, .int .i64, .int .i64, .int .i64, .int .i64, .int .i64, .int .i64, .int .i64]} {n : Int} {m : Int} {at0 : Int} {w : TW} {X : Nat → Prop} {K : Tel (fl [.one .bool]) (TW → Prop)} (h : Sh.zigguratlaw11_ToomGreat t n m at0 (Rt X [.one .bool] K w) w.here) : Ct Pg F.zigguratlaw11_ToomGreat [.agg (encs [.int .i64, .int .i64, .int .i64, .int .i64, .int .i64, .int .i64, .int .i64, .int .i64, .int .i64, .int .i64, .int .i64] t).toArray, .int .i64 n, .int .i64 m, .int .i64 at0] w X [.one .bool] K :=
  ct_of_den (D := Dc.zigguratlaw11_ToomGreat) (fn := Go.Proofs.Try.f9) Xt_ok follows_ok (by kernel_rfl) (by kernel_rfl) (by kernel_rfl) (Eq.mpr (Eq.zigguratlaw11_ToomGreat t n m at0 _ _) h)

def Sh.zigguratlaw11_from (a : Sl) (R : Value → TW → Prop) (w : TW) : Prop :=
cl Pg F.zigguratref02_From [a.v] w [.one .slice] fun (s : Sl) w1 =>
R (s.v) w1
def Dc.zigguratlaw11_from : Dc := { N := 5, va := [], vb := [], ann := [], ext := Xt }
theorem Eq.zigguratlaw11_from (a : Sl) (R : Value → TW → Prop) (w : TW) : denF Pg Dc.zigguratlaw11_from Go.Proofs.Try.f11 (Go.Proofs.Try.f11.body.getD .skip) [a.v] w R = Sh.zigguratlaw11_from a R w := by kernel_rfl
theorem Ct.zigguratlaw11_from {a : Sl} {w : TW} {X : Nat → Prop} {K : Tel (fl [.one .slice]) (TW → Prop)} (h : Sh.zigguratlaw11_from a (Rt X [.one .slice] K w) w.here) : Ct Pg F.zigguratlaw11_from [a.v] w X [.one .slice] K :=
  ct_of_den (D := Dc.zigguratlaw11_from) (fn := Go.Proofs.Try.f11) Xt_ok follows_ok (by kernel_rfl) (by kernel_rfl) (by kernel_rfl) (Eq.mpr (Eq.zigguratlaw11_from a _ _) h)

def Sh.zigguratlaw11_wakes (R : Value → TW → Prop) (w : TW) : Prop :=
nwb w [.int .u64 12] T.uint64 fun b w1 =>
cl Pg F.toom_Third [.slice (some ⟨b, 0, none⟩) 1 1] w1 [.one .slice, .one .bool] fun (s : Sl) (ok : Bool) w2 =>
nwb w2 [.int .u64 13] T.uint64 fun b1 w3 =>
cl Pg F.toom_Third [.slice (some ⟨b1, 0, none⟩) 1 1] w3 [.one .slice, .one .bool] fun (_ : Sl) (ok1 : Bool) w4 =>
Jn [.bool] (fun J0 =>
cond ok (
cond (!ok1) (
nwb w4 [.int .u64 4] T.uint64 fun b2 w5 =>
cl Pg F.zigguratkeep_Same [s.v, .slice (some ⟨b2, 0, none⟩) 1 1] w5 [.one .bool] fun (ok2 : Bool) w6 =>
cond ok2 (
cl Pg F.toom_New [.agg #[.int .i64 0, .int .i64 0, .int .i64 0, .int .i64 0, .int .i64 0, .int .i64 0, .int .i64 0, .int .i64 0, .int .i64 0, .int .i64 0, .int .i64 0]] w6 [.one .ptr] fun (p : Option Addr) w7 =>
J0 (!(Option.isNone p)) w7) (
J0 false w6)) (
J0 false w4)) (
J0 false w4)) fun (x : Bool) w8 =>
R (.bool x) w8
def Dc.zigguratlaw11_wakes : Dc := { N := 30, va := [], vb := [], ann := [(0, 3, [(0, .one .bool)])], ext := Xt }
theorem Eq.zigguratlaw11_wakes (R : Value → TW → Prop) (w : TW) : denF Pg Dc.zigguratlaw11_wakes Go.Proofs.Try.f20 (Go.Proofs.Try.f20.body.getD .skip) [] w R = Sh.zigguratlaw11_wakes R w := by kernel_rfl
theorem Ct.zigguratlaw11_wakes {w : TW} {X : Nat → Prop} {K : Tel (fl [.one .bool]) (TW → Prop)} (h : Sh.zigguratlaw11_wakes (Rt X [.one .bool] K w) w.here) : Ct Pg F.zigguratlaw11_wakes [] w X [.one .bool] K :=
  ct_of_den (D := Dc.zigguratlaw11_wakes) (fn := Go.Proofs.Try.f20) Xt_ok follows_ok (by kernel_rfl) (by kernel_rfl) (by kernel_rfl) (Eq.mpr (Eq.zigguratlaw11_wakes _ _) h)

def Sh.zigguratlaw11_ToomMuls (t : HL [.int .i64, .int .i64, .int .i64, .int .i64, .int .i64, .int .i64, .int .i64, .int .i64, .int .i64, .int .i64, .int .i64]) (a : Sl) (b : Sl) (R : Value → TW → Prop) (w : TW) : Prop :=
nwv w fun w1 =>
cl Pg F.zigguratkeep_Cut [a.v, .int .i64 45] w1 [.one .slice] fun (s : Sl) w2 =>
cl Pg F.zigguratkeep_Cut [b.v, .int .i64 45] w2 [.one .slice] fun (s1 : Sl) w3 =>
cl Pg F.toom_New [.agg #[.int .i64 t.1, .int .i64 t.2.1, .int .i64 t.2.2.1, .int .i64 t.2.2.2.1, .int .i64 t.2.2.2.2.1, .int .i64 t.2.2.2.2.2.1, .int .i64 t.2.2.2.2.2.2.1, .int .i64 t.2.2.2.2.2.2.2.1, .int .i64 t.2.2.2.2.2.2.2.2.1, .int .i64 t.2.2.2.2.2.2.2.2.2.1, .int .i64 t.2.2.2.2.2.2.2.2.2.2.1]] w3 [.one .ptr] fun (p : Option Addr) w4 =>
cond (Option.isNone p) (
R (.bool false) w4) (
bnd (if ((s1.n : Int) : Int) > (s.n : Int) then (s1.n : Int) else (s.n : Int)) fun n =>
bnd (if ((s1.n : Int) : Int) < (s.n : Int) then (s1.n : Int) else (s.n : Int)) fun n1 =>
bnd (wi (n + 2)) fun n2 =>
divK .i64 n2 3 fun n3 =>
bnd (wi (n3 + 1)) fun n4 =>
bnd (wi (n3 + 1)) fun n5 =>
bnd (wi (n3 + 1)) fun n6 =>
bnd (wi (n3 + 1)) fun n7 =>
bnd (wi (n3 + 1)) fun n8 =>
bnd (wi (n3 + 1)) fun n9 =>
bnd (wi (2 * n3)) fun n10 =>
bnd (wi (n - n10)) fun n11 =>
bnd (wi (2 * n3)) fun n12 =>
bnd (wi (n1 - n12)) fun n13 =>
nwb w4 [.int .i64 n3, .int .i64 n3, .int .i64 n4, .int .i64 n5, .int .i64 n6, .int .i64 n7, .int .i64 n8, .int .i64 n9, .int .i64 n11, .int .i64 n13] T.t_2_int fun b1 w5 =>
nwb w5 [.slice none 0 0] T.s__2_int fun b2 w6 =>
stc w6 ⟨b2, 0, none⟩ (.slice (some ⟨b1, 0, none⟩) 5 5) fun w7 =>
cl Pg F.zigguratkeep_Lend [s.v] w7 [.one .slice] fun (s2 : Sl) w8 =>
cl Pg F.zigguratkeep_Lend [s1.v] w8 [.one .slice] fun (s3 : Sl) w9 =>
nwb w9 [.int .i64 0] T.int fun b3 w10 =>
nwb w10 [.bool false] T.bool fun b4 w11 =>
stc w11 ⟨b3, 0, none⟩ (.int .i64 0) fun w12 =>
stc w12 ⟨b4, 0, none⟩ (.bool true) fun w13 =>
cl Pg F.toom_Engine_Toom [.pointer p, s2.v, s3.v, .func (.func F.zigguratlaw11_ToomMuls_1) #[] #[.pointer (some ⟨b4, 0, none⟩), .pointer (some ⟨b3, 0, none⟩), .pointer (some ⟨b2, 0, none⟩)]] w13 [.one .slice, .one .bool] fun (s4 : Sl) (ok : Bool) w14 =>
bnd (wi (2 * n3)) fun n14 =>
cond (decide ((n1 : Int) ≤ n14)) (
Jn [.bool] (fun J0 =>
cond (!ok) (
ldc (.int .i64) w14 ⟨b3, 0, none⟩ fun (v : Int) =>
cond ((v : Int) == 0) (
cond (((s4.n : Int) : Int) == 0) (
cl Pg F.zigguratlaw11_wakes [] w14 [.one .bool] fun (ok1 : Bool) w15 =>
J0 ok1 w15) (
J0 false w14)) (
J0 false w14)) (
J0 false w14)) fun (x : Bool) w16 =>
R (.bool x) w16) (
Jn [.bool] (fun J1 =>
cond (!ok) (
J1 true w14) (
ldc (.int .i64) w14 ⟨b3, 0, none⟩ fun (v1 : Int) =>
cond ((v1 : Int) != 5) (
J1 true w14) (
ldc (.bool) w14 ⟨b4, 0, none⟩ fun (v2 : Bool) =>
cond (!v2) (
J1 true w14) (
cl Pg F.zigguratlaw11_from [s.v] w14 [.one .slice] fun (s5 : Sl) w17 =>
cl Pg F.zigguratlaw11_from [s1.v] w17 [.one .slice] fun (s6 : Sl) w18 =>
cl Pg F.zigguratref02_Mul [s5.v, s6.v] w18 [.one .slice] fun (s7 : Sl) w19 =>
cl Pg F.zigguratref02_Same [s7.v, s4.v] w19 [.one .bool] fun (ok2 : Bool) w20 =>
cond (!ok2) (
J1 true w20) (
nck p fun a1 =>
ldc (.ptr) w20 a1 fun (v3 : Option Addr) =>
nck v3 fun a2 =>
ldc (.ptr) w20 a2 fun (v4 : Option Addr) =>
nck v4 fun a3 =>
ldc (.ptr) w20 a3 fun (v5 : Option Addr) =>
nck v5 fun a4 =>
cl Pg F.meter_Meter_Muls [.pointer (some a4)] w20 [.one (.int .i64)] fun (r : Int) w21 =>
cond ((r : Int) != 0) (
J1 true w21) (
nck p fun a5 =>
ldc (.ptr) w21 a5 fun (v6 : Option Addr) =>
nck v6 fun a6 =>
ldc (.ptr) w21 a6 fun (v7 : Option Addr) =>
nck v7 fun a7 =>
ldc (.ptr) w21 a7 fun (v8 : Option Addr) =>
nck v8 fun a8 =>
cl Pg F.meter_Meter_Deep [.pointer (some a8)] w21 [.one (.int .i64)] fun (r1 : Int) w22 =>
cond ((r1 : Int) != 1) (
J1 true w22) (
nck p fun a9 =>
ldc (.ptr) w22 a9 fun (v9 : Option Addr) =>
nck v9 fun a10 =>
ldc (.ptr) w22 a10 fun (v10 : Option Addr) =>
nck v10 fun a11 =>
ldc (.ptr) w22 a11 fun (v11 : Option Addr) =>
nck v11 fun a12 =>
cl Pg F.meter_Meter_Now [.pointer (some a12)] w22 [.one (.int .i64)] fun (r2 : Int) w23 =>
J1 ((r2 : Int) != 0) w23))))))) fun (x1 : Bool) w24 =>
cond x1 (
R (.bool false) w24) (
cl Pg F.zigguratkeep_Spoil [s4.v] w24 [] fun w25 =>
Jn [.bool] (fun J2 =>
cl Pg F.zigguratkeep_Intact [s2.v, s.v] w25 [.one .bool] fun (ok3 : Bool) w26 =>
cond ok3 (
cl Pg F.zigguratkeep_Intact [s3.v, s1.v] w26 [.one .bool] fun (ok4 : Bool) w27 =>
cond ok4 (
cl Pg F.zigguratlaw11_wakes [] w27 [.one .bool] fun (ok5 : Bool) w28 =>
J2 ok5 w28) (
J2 false w27)) (
J2 false w26)) fun (x2 : Bool) w29 =>
R (.bool x2) w29)))
def Dc.zigguratlaw11_ToomMuls : Dc := { N := 178, va := [(3, 178)], vb := [(178, 11)], ann := [(0, 12, [(6, .one .bool)]), (0, 13, [(164, .one .bool)]), (0, 16, [(6, .one .bool)])], ext := Xt }
theorem Eq.zigguratlaw11_ToomMuls (t : HL [.int .i64, .int .i64, .int .i64, .int .i64, .int .i64, .int .i64, .int .i64, .int .i64, .int .i64, .int .i64, .int .i64]) (a : Sl) (b : Sl) (R : Value → TW → Prop) (w : TW) : denF Pg Dc.zigguratlaw11_ToomMuls Go.Proofs.Try.f45 (Go.Proofs.Try.f45.body.getD .skip) [.agg (encs [.int .i64, .int .i64, .int .i64, .int .i64, .int .i64, .int .i64, .int .i64, .int .i64, .int .i64, .int .i64, .int .i64] t).toArray, a.v, b.v] w R = Sh.zigguratlaw11_ToomMuls t a b R w := by kernel_rfl
theorem Ct.zigguratlaw11_ToomMuls {t : HL [.int .i64, .int .i64, .int .i64, .int .i64, .int .i64, .int .i64, .int .i64, .int .i64, .int .i64, .int .i64, .int .i64]} {a : Sl} {b : Sl} {w : TW} {X : Nat → Prop} {K : Tel (fl [.one .bool]) (TW → Prop)} (h : Sh.zigguratlaw11_ToomMuls t a b (Rt X [.one .bool] K w) w.here) : Ct Pg F.zigguratlaw11_ToomMuls [.agg (encs [.int .i64, .int .i64, .int .i64, .int .i64, .int .i64, .int .i64, .int .i64, .int .i64, .int .i64, .int .i64, .int .i64] t).toArray, a.v, b.v] w X [.one .bool] K :=
  ct_of_den (D := Dc.zigguratlaw11_ToomMuls) (fn := Go.Proofs.Try.f45) Xt_ok follows_ok (by kernel_rfl) (by kernel_rfl) (by kernel_rfl) (Eq.mpr (Eq.zigguratlaw11_ToomMuls t a b _ _) h)

def Sh.zigguratlaw11_ToomSquares (t : HL [.int .i64, .int .i64, .int .i64, .int .i64, .int .i64, .int .i64, .int .i64, .int .i64, .int .i64, .int .i64, .int .i64]) (a : Sl) (R : Value → TW → Prop) (w : TW) : Prop :=
nwv w fun w1 =>
cl Pg F.zigguratkeep_Cut [a.v, .int .i64 45] w1 [.one .slice] fun (s : Sl) w2 =>
cl Pg F.toom_New [.agg #[.int .i64 t.1, .int .i64 t.2.1, .int .i64 t.2.2.1, .int .i64 t.2.2.2.1, .int .i64 t.2.2.2.2.1, .int .i64 t.2.2.2.2.2.1, .int .i64 t.2.2.2.2.2.2.1, .int .i64 t.2.2.2.2.2.2.2.1, .int .i64 t.2.2.2.2.2.2.2.2.1, .int .i64 t.2.2.2.2.2.2.2.2.2.1, .int .i64 t.2.2.2.2.2.2.2.2.2.2.1]] w2 [.one .ptr] fun (p : Option Addr) w3 =>
cond (Option.isNone p) (
R (.bool false) w3) (
bnd (wi ((s.n : Int) + 2)) fun n =>
divK .i64 n 3 fun n1 =>
bnd (wi (n1 + 1)) fun n2 =>
bnd (wi (n1 + 1)) fun n3 =>
bnd (wi (n1 + 1)) fun n4 =>
bnd (wi (2 * n1)) fun n5 =>
bnd (wi ((s.n : Int) - n5)) fun n6 =>
nwb w3 [.int .i64 n1, .int .i64 n2, .int .i64 n3, .int .i64 n4, .int .i64 n6] T.int fun b w4 =>
nwb w4 [.slice none 0 0] T.s_int fun b1 w5 =>
stc w5 ⟨b1, 0, none⟩ (.slice (some ⟨b, 0, none⟩) 5 5) fun w6 =>
cl Pg F.zigguratkeep_Lend [s.v] w6 [.one .slice] fun (s1 : Sl) w7 =>
nwb w7 [.int .i64 0] T.int fun b2 w8 =>
nwb w8 [.bool false] T.bool fun b3 w9 =>
stc w9 ⟨b2, 0, none⟩ (.int .i64 0) fun w10 =>
stc w10 ⟨b3, 0, none⟩ (.bool true) fun w11 =>
cl Pg F.toom_Engine_ToomSqr [.pointer p, s1.v, .func (.func F.zigguratlaw11_ToomSquares_1) #[] #[.pointer (some ⟨b3, 0, none⟩), .pointer (some ⟨b2, 0, none⟩), .pointer (some ⟨b1, 0, none⟩)]] w11 [.one .slice, .one .bool] fun (s2 : Sl) (ok : Bool) w12 =>
bnd (wi (2 * n1)) fun n7 =>
cond (decide (((s.n : Int) : Int) ≤ n7)) (
Jn [.bool] (fun J0 =>
cond (!ok) (
ldc (.int .i64) w12 ⟨b2, 0, none⟩ fun (v : Int) =>
cond ((v : Int) == 0) (
cond (((s2.n : Int) : Int) == 0) (
cl Pg F.zigguratlaw11_wakes [] w12 [.one .bool] fun (ok1 : Bool) w13 =>
J0 ok1 w13) (
J0 false w12)) (
J0 false w12)) (
J0 false w12)) fun (x : Bool) w14 =>
R (.bool x) w14) (
Jn [.bool] (fun J1 =>
cond ok (
ldc (.int .i64) w12 ⟨b2, 0, none⟩ fun (v1 : Int) =>
cond ((v1 : Int) == 5) (
ldc (.bool) w12 ⟨b3, 0, none⟩ fun (v2 : Bool) =>
cond v2 (
cl Pg F.zigguratlaw11_from [s.v] w12 [.one .slice] fun (s3 : Sl) w15 =>
cl Pg F.zigguratlaw11_from [s.v] w15 [.one .slice] fun (s4 : Sl) w16 =>
cl Pg F.zigguratref02_Mul [s3.v, s4.v] w16 [.one .slice] fun (s5 : Sl) w17 =>
cl Pg F.zigguratref02_Same [s5.v, s2.v] w17 [.one .bool] fun (ok2 : Bool) w18 =>
cond ok2 (
cl Pg F.zigguratkeep_Intact [s1.v, s.v] w18 [.one .bool] fun (ok3 : Bool) w19 =>
cond ok3 (
cl Pg F.zigguratlaw11_wakes [] w19 [.one .bool] fun (ok4 : Bool) w20 =>
J1 ok4 w20) (
J1 false w19)) (
J1 false w18)) (
J1 false w12)) (
J1 false w12)) (
J1 false w12)) fun (x1 : Bool) w21 =>
R (.bool x1) w21))
def Dc.zigguratlaw11_ToomSquares : Dc := { N := 89, va := [(2, 89)], vb := [(89, 11)], ann := [(0, 12, [(4, .one .bool)]), (0, 13, [(4, .one .bool)])], ext := Xt }
theorem Eq.zigguratlaw11_ToomSquares (t : HL [.int .i64, .int .i64, .int .i64, .int .i64, .int .i64, .int .i64, .int .i64, .int .i64, .int .i64, .int .i64, .int .i64]) (a : Sl) (R : Value → TW → Prop) (w : TW) : denF Pg Dc.zigguratlaw11_ToomSquares Go.Proofs.Try.f46 (Go.Proofs.Try.f46.body.getD .skip) [.agg (encs [.int .i64, .int .i64, .int .i64, .int .i64, .int .i64, .int .i64, .int .i64, .int .i64, .int .i64, .int .i64, .int .i64] t).toArray, a.v] w R = Sh.zigguratlaw11_ToomSquares t a R w := by kernel_rfl
theorem Ct.zigguratlaw11_ToomSquares {t : HL [.int .i64, .int .i64, .int .i64, .int .i64, .int .i64, .int .i64, .int .i64, .int .i64, .int .i64, .int .i64, .int .i64]} {a : Sl} {w : TW} {X : Nat → Prop} {K : Tel (fl [.one .bool]) (TW → Prop)} (h : Sh.zigguratlaw11_ToomSquares t a (Rt X [.one .bool] K w) w.here) : Ct Pg F.zigguratlaw11_ToomSquares [.agg (encs [.int .i64, .int .i64, .int .i64, .int .i64, .int .i64, .int .i64, .int .i64, .int .i64, .int .i64, .int .i64, .int .i64] t).toArray, a.v] w X [.one .bool] K :=
  ct_of_den (D := Dc.zigguratlaw11_ToomSquares) (fn := Go.Proofs.Try.f46) Xt_ok follows_ok (by kernel_rfl) (by kernel_rfl) (by kernel_rfl) (Eq.mpr (Eq.zigguratlaw11_ToomSquares t a _ _) h)

def Sh.zigguratlaw11_ToomMuls_1 (a : Sl) (b : Sl) (cap : Addr) (cap1 : Addr) (cap2 : Addr) (R : Value → TW → Prop) (w : TW) : Prop :=
Jn [] (fun J0 =>
ldc (.bool) w cap fun (v : Bool) =>
cond v (
ldc (.int .i64) w cap1 fun (v1 : Int) =>
cond (decide ((v1 : Int) < 5)) (
ldc (.slice) w cap2 fun (v2 : Sl) =>
ldc (.int .i64) w cap1 fun (v3 : Int) =>
ixa v2 v3 2 fun a1 =>
ixp a1 0 2 1 fun a2 =>
ldc (.int .i64) w a2 fun (v4 : Int) =>
cond (((a.n : Int) : Int) == v4) (
ldc (.slice) w cap2 fun (v5 : Sl) =>
ldc (.int .i64) w cap1 fun (v6 : Int) =>
ixa v5 v6 2 fun a3 =>
ixp a3 1 2 1 fun a4 =>
ldc (.int .i64) w a4 fun (v7 : Int) =>
stc w cap (.bool (((b.n : Int) : Int) == v7)) fun w1 =>
J0 w1) (
stc w cap (.bool false) fun w2 =>
J0 w2)) (
stc w cap (.bool false) fun w3 =>
J0 w3)) (
stc w cap (.bool false) fun w4 =>
J0 w4)) fun  w5 =>
ldc (.int .i64) w5 cap1 fun (v8 : Int) =>
bnd (wi (v8 + 1)) fun n =>
stc w5 cap1 (.int .i64 n) fun w6 =>
cl Pg F.zigguratlaw11_hand [a.v, b.v] w6 [.one .slice] fun (s : Sl) w7 =>
R (s.v) w7
def Dc.zigguratlaw11_ToomMuls_1 : Dc := { N := 38, va := [], vb := [], ann := [(0, 1, [])], ext := Xt }
theorem Eq.zigguratlaw11_ToomMuls_1 (a : Sl) (b : Sl) (cap : Addr) (cap1 : Addr) (cap2 : Addr) (R : Value → TW → Prop) (w : TW) : denF Pg Dc.zigguratlaw11_ToomMuls_1 Go.Proofs.Try.f78 (Go.Proofs.Try.f78.body.getD .skip) [a.v, b.v, .pointer (some cap), .pointer (some cap1), .pointer (some cap2)] w R = Sh.zigguratlaw11_ToomMuls_1 a b cap cap1 cap2 R w := by kernel_rfl
theorem Ct.zigguratlaw11_ToomMuls_1 {a : Sl} {b : Sl} {cap : Addr} {cap1 : Addr} {cap2 : Addr} {w : TW} {X : Nat → Prop} {K : Tel (fl [.one .slice]) (TW → Prop)} (h : Sh.zigguratlaw11_ToomMuls_1 a b cap cap1 cap2 (Rt X [.one .slice] K w) w.here) : Ct Pg F.zigguratlaw11_ToomMuls_1 [a.v, b.v, .pointer (some cap), .pointer (some cap1), .pointer (some cap2)] w X [.one .slice] K :=
  ct_of_den (D := Dc.zigguratlaw11_ToomMuls_1) (fn := Go.Proofs.Try.f78) Xt_ok follows_ok (by kernel_rfl) (by kernel_rfl) (by kernel_rfl) (Eq.mpr (Eq.zigguratlaw11_ToomMuls_1 a b cap cap1 cap2 _ _) h)

def Sh.zigguratlaw11_hand (a : Sl) (b : Sl) (R : Value → TW → Prop) (w : TW) : Prop :=
cl Pg F.zigguratlaw11_from [a.v] w [.one .slice] fun (s : Sl) w1 =>
cl Pg F.zigguratlaw11_from [b.v] w1 [.one .slice] fun (s1 : Sl) w2 =>
cl Pg F.zigguratref02_Mul [s.v, s1.v] w2 [.one .slice] fun (s2 : Sl) w3 =>
cl Pg F.zigguratref02_To [s2.v] w3 [.one .slice] fun (s3 : Sl) w4 =>
R (s3.v) w4
def Dc.zigguratlaw11_hand : Dc := { N := 11, va := [], vb := [], ann := [], ext := Xt }
theorem Eq.zigguratlaw11_hand (a : Sl) (b : Sl) (R : Value → TW → Prop) (w : TW) : denF Pg Dc.zigguratlaw11_hand Go.Proofs.Try.f79 (Go.Proofs.Try.f79.body.getD .skip) [a.v, b.v] w R = Sh.zigguratlaw11_hand a b R w := by kernel_rfl
theorem Ct.zigguratlaw11_hand {a : Sl} {b : Sl} {w : TW} {X : Nat → Prop} {K : Tel (fl [.one .slice]) (TW → Prop)} (h : Sh.zigguratlaw11_hand a b (Rt X [.one .slice] K w) w.here) : Ct Pg F.zigguratlaw11_hand [a.v, b.v] w X [.one .slice] K :=
  ct_of_den (D := Dc.zigguratlaw11_hand) (fn := Go.Proofs.Try.f79) Xt_ok follows_ok (by kernel_rfl) (by kernel_rfl) (by kernel_rfl) (Eq.mpr (Eq.zigguratlaw11_hand a b _ _) h)

def Sh.zigguratlaw11_ToomSquares_1 (a : Sl) (cap : Addr) (cap1 : Addr) (cap2 : Addr) (R : Value → TW → Prop) (w : TW) : Prop :=
Jn [] (fun J0 =>
ldc (.bool) w cap fun (v : Bool) =>
cond v (
ldc (.int .i64) w cap1 fun (v1 : Int) =>
cond (decide ((v1 : Int) < 5)) (
ldc (.slice) w cap2 fun (v2 : Sl) =>
ldc (.int .i64) w cap1 fun (v3 : Int) =>
ixa v2 v3 1 fun a1 =>
ldc (.int .i64) w a1 fun (v4 : Int) =>
stc w cap (.bool (((a.n : Int) : Int) == v4)) fun w1 =>
J0 w1) (
stc w cap (.bool false) fun w2 =>
J0 w2)) (
stc w cap (.bool false) fun w3 =>
J0 w3)) fun  w4 =>
ldc (.int .i64) w4 cap1 fun (v5 : Int) =>
bnd (wi (v5 + 1)) fun n =>
stc w4 cap1 (.int .i64 n) fun w5 =>
cl Pg F.zigguratlaw11_hand [a.v, a.v] w5 [.one .slice] fun (s : Sl) w6 =>
R (s.v) w6
def Dc.zigguratlaw11_ToomSquares_1 : Dc := { N := 25, va := [], vb := [], ann := [(0, 1, [])], ext := Xt }
theorem Eq.zigguratlaw11_ToomSquares_1 (a : Sl) (cap : Addr) (cap1 : Addr) (cap2 : Addr) (R : Value → TW → Prop) (w : TW) : denF Pg Dc.zigguratlaw11_ToomSquares_1 Go.Proofs.Try.f81 (Go.Proofs.Try.f81.body.getD .skip) [a.v, .pointer (some cap), .pointer (some cap1), .pointer (some cap2)] w R = Sh.zigguratlaw11_ToomSquares_1 a cap cap1 cap2 R w := by kernel_rfl
theorem Ct.zigguratlaw11_ToomSquares_1 {a : Sl} {cap : Addr} {cap1 : Addr} {cap2 : Addr} {w : TW} {X : Nat → Prop} {K : Tel (fl [.one .slice]) (TW → Prop)} (h : Sh.zigguratlaw11_ToomSquares_1 a cap cap1 cap2 (Rt X [.one .slice] K w) w.here) : Ct Pg F.zigguratlaw11_ToomSquares_1 [a.v, .pointer (some cap), .pointer (some cap1), .pointer (some cap2)] w X [.one .slice] K :=
  ct_of_den (D := Dc.zigguratlaw11_ToomSquares_1) (fn := Go.Proofs.Try.f81) Xt_ok follows_ok (by kernel_rfl) (by kernel_rfl) (by kernel_rfl) (Eq.mpr (Eq.zigguratlaw11_ToomSquares_1 a cap cap1 cap2 _ _) h)
end Go.Proofs.Ytdkhilllajdnpaa.Zg
end

section
set_option maxRecDepth 100000
namespace Go.Proofs.Ytdkhilllajdnpaa.Zg
def Sh.zigguratref02_Mul (a : Sl) (b : Sl) (R : Value → TW → Prop) (w : TW) : Prop :=
bnd (wi ((a.n : Int) + (b.n : Int))) fun n =>
mks w n n T.uint64 8 [.int .u64 0] fun s w1 =>
Jn [] (fun J0 =>
Lp [.int .i64] (fun (i : Int) w2 C0 =>
cond (decide ((i : Int) < (a.n : Int))) (
Jn [.int .u64] (fun J1 =>
Lp [.int .u64, .int .i64] (fun (c : Int) (j : Int) w3 C1 =>
cond (decide ((j : Int) < (b.n : Int))) (
bnd (wi (i + j)) fun n1 =>
ixa s n1 1 fun a1 =>
ldc (.int .u64) w3.drew a1 fun (v : Int) =>
ixa a i 1 fun a2 =>
ldc (.int .u64) w3.drew a2 fun (v1 : Int) =>
ixa b j 1 fun a3 =>
ldc (.int .u64) w3.drew a3 fun (v2 : Int) =>
bnd (wu (v1 * v2)) fun n2 =>
bnd (wu (v + n2)) fun n3 =>
bnd (wu (n3 + c)) fun n4 =>
bnd (wi (i + j)) fun n5 =>
remK n4 4294967296 fun n6 =>
ixa s n5 1 fun a4 =>
stc w3.drew a4 (.int .u64 n6) fun w4 =>
divK .u64 n4 4294967296 fun n7 =>
bnd (wi (j + 1)) fun n8 =>
C1 n7 n8 w4) (
J1 c w3)) 0 0 w2) fun (c1 : Int) w5 =>
bnd (wi (i + (b.n : Int))) fun n9 =>
ixa s n9 1 fun a5 =>
stc w5 a5 (.int .u64 c1) fun w6 =>
bnd (wi (i + 1)) fun n10 =>
C0 n10 w6) (
J0 w2)) 0 w1) fun  w7 =>
cl Pg F.zigguratref02_norm [s.v] w7 [.one .slice] fun (s1 : Sl) w8 =>
R (s1.v) w8
def Dc.zigguratref02_Mul : Dc := { N := 64, va := [], vb := [], ann := [(2, 0, []), (3, 3, [(6, .one (.int .i64))]), (2, 2, [(7, .one (.int .u64))]), (3, 7, [(7, .one (.int .u64)), (8, .one (.int .i64))])], ext := Xt }
theorem Eq.zigguratref02_Mul (a : Sl) (b : Sl) (R : Value → TW → Prop) (w : TW) : denF Pg Dc.zigguratref02_Mul Go.Proofs.Try.f12 (Go.Proofs.Try.f12.body.getD .skip) [a.v, b.v] w R = Sh.zigguratref02_Mul a b R w := by kernel_rfl
theorem Ct.zigguratref02_Mul {a : Sl} {b : Sl} {w : TW} {X : Nat → Prop} {K : Tel (fl [.one .slice]) (TW → Prop)} (h : Sh.zigguratref02_Mul a b (Rt X [.one .slice] K w) w.here) : Ct Pg F.zigguratref02_Mul [a.v, b.v] w X [.one .slice] K :=
  ct_of_den (D := Dc.zigguratref02_Mul) (fn := Go.Proofs.Try.f12) Xt_ok follows_ok (by kernel_rfl) (by kernel_rfl) (by kernel_rfl) (Eq.mpr (Eq.zigguratref02_Mul a b _ _) h)

def Sh.zigguratref02_Small (y : Int) (R : Value → TW → Prop) (w : TW) : Prop :=
nwb w [.int .u64 y] T.uint64 fun b w1 =>
cl Pg F.zigguratref02_From [.slice (some ⟨b, 0, none⟩) 1 1] w1 [.one .slice] fun (s : Sl) w2 =>
R (s.v) w2
def Dc.zigguratref02_Small : Dc := { N := 6, va := [], vb := [], ann := [], ext := Xt }
theorem Eq.zigguratref02_Small (y : Int) (R : Value → TW → Prop) (w : TW) : denF Pg Dc.zigguratref02_Small Go.Proofs.Try.f13 (Go.Proofs.Try.f13.body.getD .skip) [.int .u64 y] w R = Sh.zigguratref02_Small y R w := by kernel_rfl
theorem Ct.zigguratref02_Small {y : Int} {w : TW} {X : Nat → Prop} {K : Tel (fl [.one .slice]) (TW → Prop)} (h : Sh.zigguratref02_Small y (Rt X [.one .slice] K w) w.here) : Ct Pg F.zigguratref02_Small [.int .u64 y] w X [.one .slice] K :=
  ct_of_den (D := Dc.zigguratref02_Small) (fn := Go.Proofs.Try.f13) Xt_ok follows_ok (by kernel_rfl) (by kernel_rfl) (by kernel_rfl) (Eq.mpr (Eq.zigguratref02_Small y _ _) h)

def Sh.zigguratref02_DivMod (a : Sl) (d : Sl) (R : Value → TW → Prop) (w : TW) : Prop :=
cl Pg F.zigguratref02_Cmp [a.v, d.v] w [.one (.int .i64)] fun (r : Int) w1 =>
cond (decide ((r : Int) < 0)) (
R (.tuple #[.slice none 0 0, a.v]) w1) (
bnd (wi ((d.n : Int) + 1)) fun n =>
mks w1 n n T.uint64 8 [.int .u64 0] fun s w2 =>
mks w2 (a.n : Int) (a.n : Int) T.uint64 8 [.int .u64 0] fun s1 w3 =>
cl Pg F.zigguratref02_Bits [a.v] w3 [.one (.int .i64)] fun (r1 : Int) w4 =>
bnd (wi (r1 - 1)) fun n1 =>
Jn [] (fun J0 =>
Lp [.int .i64] (fun (i : Int) w5 C0 =>
cond (decide ((i : Int) ≥ 0)) (
cl Pg F.zigguratref02_bit [a.v, .int .i64 i] w5 [.one (.int .u64)] fun (r2 : Int) w6 =>
cl Pg F.zigguratref02_twice [s.v, .int .u64 r2, d.v] w6 [.one .bool] fun (ok : Bool) w7 =>
Jn [] (fun J1 =>
cond ok (
divK .i64 i 32 fun n2 =>
ixa s1 n2 1 fun a1 =>
ldc (.int .u64) w7 a1 fun (v : Int) =>
remK i 32 fun n3 =>
bnd (wu (n3)) fun n4 =>
shlK .u64 1 n4 fun n5 =>
bnd (bits2 .or .u64 v n5) fun n6 =>
ixa s1 n2 1 fun a2 =>
stc w7 a2 (.int .u64 n6) fun w8 =>
J1 w8) (
J1 w7)) fun  w9 =>
bnd (wi (i - 1)) fun n7 =>
C0 n7 w9) (
J0 w5)) n1 w4) fun  w10 =>
cl Pg F.zigguratref02_norm [s1.v] w10 [.one .slice] fun (s2 : Sl) w11 =>
cl Pg F.zigguratref02_norm [s.v] w11 [.one .slice] fun (s3 : Sl) w12 =>
R (.tuple #[s2.v, s3.v]) w12)
def Dc.zigguratref02_DivMod : Dc := { N := 49, va := [], vb := [], ann := [(2, 0, []), (3, 6, [(8, .one (.int .i64))]), (1, 9, [])], ext := Xt }
theorem Eq.zigguratref02_DivMod (a : Sl) (d : Sl) (R : Value → TW → Prop) (w : TW) : denF Pg Dc.zigguratref02_DivMod Go.Proofs.Try.f14 (Go.Proofs.Try.f14.body.getD .skip) [a.v, d.v] w R = Sh.zigguratref02_DivMod a d R w := by kernel_rfl
theorem Ct.zigguratref02_DivMod {a : Sl} {d : Sl} {w : TW} {X : Nat → Prop} {K : Tel (fl [.one .slice, .one .slice]) (TW → Prop)} (h : Sh.zigguratref02_DivMod a d (Rt X [.one .slice, .one .slice] K w) w.here) : Ct Pg F.zigguratref02_DivMod [a.v, d.v] w X [.one .slice, .one .slice] K :=
  ct_of_den (D := Dc.zigguratref02_DivMod) (fn := Go.Proofs.Try.f14) Xt_ok follows_ok (by kernel_rfl) (by kernel_rfl) (by kernel_rfl) (Eq.mpr (Eq.zigguratref02_DivMod a d _ _) h)

def Sh.zigguratref02_To (a : Sl) (R : Value → TW → Prop) (w : TW) : Prop :=
Jn [.slice] (fun J0 =>
Lp [.slice, .int .i64] (fun (out : Sl) (i : Int) w1 C0 =>
cond (decide ((i : Int) < (a.n : Int))) (
ixa a i 1 fun a1 =>
ldc (.int .u64) w1 a1 fun (v : Int) =>
bnd (wi (i + 1)) fun n =>
Jn [.int .u64] (fun J1 =>
cond (decide ((n : Int) < (a.n : Int))) (
bnd (wi (i + 1)) fun n1 =>
ixa a n1 1 fun a2 =>
ldc (.int .u64) w1 a2 fun (v1 : Int) =>
bnd (wu (v1 * 4294967296)) fun n2 =>
bnd (wu (v + n2)) fun n3 =>
J1 n3 w1) (
J1 v w1)) fun (y : Int) w2 =>
nwb w2 [.int .u64 y] T.uint64 fun b w3 =>
apd w3 T.uint64 1 8 out ⟨(some ⟨b, 0, none⟩), 1, 1⟩ fun s w4 =>
bnd (wi (i + 2)) fun n4 =>
C0 s n4 w4) (
J0 out w1)) Sl.nil 0 w) fun (out1 : Sl) w5 =>
Jn [.slice] (fun J2 =>
Lp [.slice] (fun (out2 : Sl) w6 C1 =>
Jn [.bool] (fun J3 =>
cond (decide (((out2.n : Int) : Int) > 0)) (
bnd (wi ((out2.n : Int) - 1)) fun n5 =>
ixa out2 n5 1 fun a3 =>
ldc (.int .u64) w6 a3 fun (v2 : Int) =>
J3 ((v2 : Int) == 0) w6) (
J3 false w6)) fun (x : Bool) w7 =>
cond x (
bnd (wi ((out2.n : Int) - 1)) fun n6 =>
slc out2 0 n6 1 fun s1 =>
C1 s1 w7) (
J2 out2 w7)) out1 w5) fun (out3 : Sl) w8 =>
R (out3.v) w8
def Dc.zigguratref02_To : Dc := { N := 51, va := [], vb := [], ann := [(2, 0, [(3, .one .slice)]), (3, 3, [(3, .one .slice), (4, .one (.int .i64))]), (1, 7, [(5, .one (.int .u64))]), (2, 2, [(3, .one .slice)]), (3, 9, [(3, .one .slice)]), (0, 9, [(44, .one .bool)])], ext := Xt }
theorem Eq.zigguratref02_To (a : Sl) (R : Value → TW → Prop) (w : TW) : denF Pg Dc.zigguratref02_To Go.Proofs.Try.f15 (Go.Proofs.Try.f15.body.getD .skip) [a.v] w R = Sh.zigguratref02_To a R w := by kernel_rfl
theorem Ct.zigguratref02_To {a : Sl} {w : TW} {X : Nat → Prop} {K : Tel (fl [.one .slice]) (TW → Prop)} (h : Sh.zigguratref02_To a (Rt X [.one .slice] K w) w.here) : Ct Pg F.zigguratref02_To [a.v] w X [.one .slice] K :=
  ct_of_den (D := Dc.zigguratref02_To) (fn := Go.Proofs.Try.f15) Xt_ok follows_ok (by kernel_rfl) (by kernel_rfl) (by kernel_rfl) (Eq.mpr (Eq.zigguratref02_To a _ _) h)

def Sh.zigguratref02_Zero (a : Sl) (R : Value → TW → Prop) (w : TW) : Prop :=
R (.bool (((a.n : Int) : Int) == 0)) w
def Dc.zigguratref02_Zero : Dc := { N := 6, va := [], vb := [], ann := [], ext := Xt }
theorem Eq.zigguratref02_Zero (a : Sl) (R : Value → TW → Prop) (w : TW) : denF Pg Dc.zigguratref02_Zero Go.Proofs.Try.f18 (Go.Proofs.Try.f18.body.getD .skip) [a.v] w R = Sh.zigguratref02_Zero a R w := by kernel_rfl
theorem Ct.zigguratref02_Zero {a : Sl} {w : TW} {X : Nat → Prop} {K : Tel (fl [.one .bool]) (TW → Prop)} (h : Sh.zigguratref02_Zero a (Rt X [.one .bool] K w) w.here) : Ct Pg F.zigguratref02_Zero [a.v] w X [.one .bool] K :=
  ct_of_den (D := Dc.zigguratref02_Zero) (fn := Go.Proofs.Try.f18) Xt_ok follows_ok (by kernel_rfl) (by kernel_rfl) (by kernel_rfl) (Eq.mpr (Eq.zigguratref02_Zero a _ _) h)

def Sh.zigguratref02_Same (a : Sl) (b : Sl) (R : Value → TW → Prop) (w : TW) : Prop :=
cl Pg F.zigguratref02_To [a.v] w [.one .slice] fun (s : Sl) w1 =>
cond (((s.n : Int) : Int) != (b.n : Int)) (
R (.bool false) w1) (
Jn [] (fun J0 =>
Lp [.int .i64] (fun (i : Int) w2 C0 =>
cond (decide ((i : Int) < (s.n : Int))) (
ixa s i 1 fun a1 =>
ldc (.int .u64) w2.drew a1 fun (v : Int) =>
ixa b i 1 fun a2 =>
ldc (.int .u64) w2.drew a2 fun (v1 : Int) =>
cond ((v : Int) != v1) (
R (.bool false) w2.drew) (
bnd (wi (i + 1)) fun n =>
C0 n w2.drew)) (
J0 w2)) 0 w1) fun  w3 =>
R (.bool true) w3)
def Dc.zigguratref02_Same : Dc := { N := 29, va := [], vb := [], ann := [(2, 0, []), (3, 5, [(6, .one (.int .i64))])], ext := Xt }
theorem Eq.zigguratref02_Same (a : Sl) (b : Sl) (R : Value → TW → Prop) (w : TW) : denF Pg Dc.zigguratref02_Same Go.Proofs.Try.f21 (Go.Proofs.Try.f21.body.getD .skip) [a.v, b.v] w R = Sh.zigguratref02_Same a b R w := by kernel_rfl
theorem Ct.zigguratref02_Same {a : Sl} {b : Sl} {w : TW} {X : Nat → Prop} {K : Tel (fl [.one .bool]) (TW → Prop)} (h : Sh.zigguratref02_Same a b (Rt X [.one .bool] K w) w.here) : Ct Pg F.zigguratref02_Same [a.v, b.v] w X [.one .bool] K :=
  ct_of_den (D := Dc.zigguratref02_Same) (fn := Go.Proofs.Try.f21) Xt_ok follows_ok (by kernel_rfl) (by kernel_rfl) (by kernel_rfl) (Eq.mpr (Eq.zigguratref02_Same a b _ _) h)

def Sh.zigguratref02_Low (a : Sl) (n : Int) (R : Value → TW → Prop) (w : TW) : Prop :=
cl Pg F.zigguratref02_Shr [a.v, .int .i64 n] w [.one .slice] fun (s : Sl) w1 =>
cl Pg F.zigguratref02_Shl [s.v, .int .i64 n] w1 [.one .slice] fun (s1 : Sl) w2 =>
cl Pg F.zigguratref02_Sub [a.v, s1.v] w2 [.one .slice] fun (s2 : Sl) w3 =>
R (s2.v) w3
def Dc.zigguratref02_Low : Dc := { N := 12, va := [], vb := [], ann := [], ext := Xt }
theorem Eq.zigguratref02_Low (a : Sl) (n : Int) (R : Value → TW → Prop) (w : TW) : denF Pg Dc.zigguratref02_Low Go.Proofs.Try.f24 (Go.Proofs.Try.f24.body.getD .skip) [a.v, .int .i64 n] w R = Sh.zigguratref02_Low a n R w := by kernel_rfl
theorem Ct.zigguratref02_Low {a : Sl} {n : Int} {w : TW} {X : Nat → Prop} {K : Tel (fl [.one .slice]) (TW → Prop)} (h : Sh.zigguratref02_Low a n (Rt X [.one .slice] K w) w.here) : Ct Pg F.zigguratref02_Low [a.v, .int .i64 n] w X [.one .slice] K :=
  ct_of_den (D := Dc.zigguratref02_Low) (fn := Go.Proofs.Try.f24) Xt_ok follows_ok (by kernel_rfl) (by kernel_rfl) (by kernel_rfl) (Eq.mpr (Eq.zigguratref02_Low a n _ _) h)

def Sh.zigguratref02_Shr (a : Sl) (n : Int) (R : Value → TW → Prop) (w : TW) : Prop :=
divK .i64 n 32 fun n1 =>
Jn [.slice] (fun J0 =>
Lp [.slice, .int .i64] (fun (out : Sl) (i : Int) w1 C0 =>
cond (decide ((i : Int) < (a.n : Int))) (
ixa a i 1 fun a1 =>
ldc (.int .u64) w1 a1 fun (v : Int) =>
remK n 32 fun n2 =>
bnd (wu (n2)) fun n3 =>
shrK .u64 v n3 fun n4 =>
bnd (wi (i + 1)) fun n5 =>
Jn [.int .u64] (fun J1 =>
cond (decide ((n5 : Int) < (a.n : Int))) (
bnd (wi (i + 1)) fun n6 =>
ixa a n6 1 fun a2 =>
ldc (.int .u64) w1 a2 fun (v1 : Int) =>
remK n 32 fun n7 =>
bnd (wi (32 - n7)) fun n8 =>
bnd (wu (n8)) fun n9 =>
shlK .u64 v1 n9 fun n10 =>
remK n10 4294967296 fun n11 =>
bnd (wu (n4 + n11)) fun n12 =>
J1 n12 w1) (
J1 n4 w1)) fun (y : Int) w2 =>
remK y 4294967296 fun n13 =>
nwb w2 [.int .u64 n13] T.uint64 fun b w3 =>
apd w3 T.uint64 1 8 out ⟨(some ⟨b, 0, none⟩), 1, 1⟩ fun s w4 =>
bnd (wi (i + 1)) fun n14 =>
C0 s n14 w4) (
J0 out w1)) Sl.nil n1 w) fun (out1 : Sl) w5 =>
cl Pg F.zigguratref02_norm [out1.v] w5 [.one .slice] fun (s1 : Sl) w6 =>
R (s1.v) w6
def Dc.zigguratref02_Shr : Dc := { N := 49, va := [], vb := [], ann := [(2, 0, [(5, .one .slice)]), (3, 3, [(5, .one .slice), (6, .one (.int .i64))]), (1, 7, [(7, .one (.int .u64))])], ext := Xt }
theorem Eq.zigguratref02_Shr (a : Sl) (n : Int) (R : Value → TW → Prop) (w : TW) : denF Pg Dc.zigguratref02_Shr Go.Proofs.Try.f25 (Go.Proofs.Try.f25.body.getD .skip) [a.v, .int .i64 n] w R = Sh.zigguratref02_Shr a n R w := by kernel_rfl
theorem Ct.zigguratref02_Shr {a : Sl} {n : Int} {w : TW} {X : Nat → Prop} {K : Tel (fl [.one .slice]) (TW → Prop)} (h : Sh.zigguratref02_Shr a n (Rt X [.one .slice] K w) w.here) : Ct Pg F.zigguratref02_Shr [a.v, .int .i64 n] w X [.one .slice] K :=
  ct_of_den (D := Dc.zigguratref02_Shr) (fn := Go.Proofs.Try.f25) Xt_ok follows_ok (by kernel_rfl) (by kernel_rfl) (by kernel_rfl) (Eq.mpr (Eq.zigguratref02_Shr a n _ _) h)

def Sh.zigguratref02_From (a : Sl) (R : Value → TW → Prop) (w : TW) : Prop :=
bnd (wi (2 * (a.n : Int))) fun n =>
mks w 0 n T.uint64 8 [.int .u64 0] fun s w1 =>
Jn [.slice] (fun J0 =>
Lp [.slice, .int .i64] (fun (out : Sl) (i : Int) w2 C0 =>
cond (decide ((i : Int) < (a.n : Int))) (
ixa a i 1 fun a1 =>
ldc (.int .u64) w2.drew a1 fun (v : Int) =>
remK v 4294967296 fun n1 =>
ixa a i 1 fun a2 =>
ldc (.int .u64) w2.drew a2 fun (v1 : Int) =>
divK .u64 v1 4294967296 fun n2 =>
nwb w2.drew [.int .u64 n1, .int .u64 n2] T.uint64 fun b w3 =>
hld w3 [(a2, .int .u64 v1), (a1, .int .u64 v)] <|
apd w3 T.uint64 1 8 out ⟨(some ⟨b, 0, none⟩), 2, 2⟩ fun s1 w4 =>
hld w4 [(a2, .int .u64 v1), (a1, .int .u64 v)] <|
bnd (wi (i + 1)) fun n3 =>
C0 s1 n3 w4) (
J0 out w2)) s 0 w1) fun (out1 : Sl) w5 =>
cl Pg F.zigguratref02_norm [out1.v] w5 [.one .slice] fun (s2 : Sl) w6 =>
R (s2.v) w6
def Dc.zigguratref02_From : Dc := { N := 30, va := [], vb := [], ann := [(2, 0, [(3, .one .slice)]), (3, 3, [(3, .one .slice), (4, .one (.int .i64))])], ext := Xt }
theorem Eq.zigguratref02_From (a : Sl) (R : Value → TW → Prop) (w : TW) : denF Pg Dc.zigguratref02_From Go.Proofs.Try.f47 (Go.Proofs.Try.f47.body.getD .skip) [a.v] w R = Sh.zigguratref02_From a R w := by kernel_rfl
theorem Ct.zigguratref02_From {a : Sl} {w : TW} {X : Nat → Prop} {K : Tel (fl [.one .slice]) (TW → Prop)} (h : Sh.zigguratref02_From a (Rt X [.one .slice] K w) w.here) : Ct Pg F.zigguratref02_From [a.v] w X [.one .slice] K :=
  ct_of_den (D := Dc.zigguratref02_From) (fn := Go.Proofs.Try.f47) Xt_ok follows_ok (by kernel_rfl) (by kernel_rfl) (by kernel_rfl) (Eq.mpr (Eq.zigguratref02_From a _ _) h)

def Sh.zigguratref02_norm (a : Sl) (R : Value → TW → Prop) (w : TW) : Prop :=
Jn [.int .i64] (fun J0 =>
Lp [.int .i64] (fun (k : Int) w1 C0 =>
Jn [.bool] (fun J1 =>
cond (decide ((k : Int) > 0)) (
bnd (wi (k - 1)) fun n =>
ixa a n 1 fun a1 =>
ldc (.int .u64) w1 a1 fun (v : Int) =>
J1 ((v : Int) == 0) w1) (
J1 false w1)) fun (x : Bool) w2 =>
cond x (
bnd (wi (k - 1)) fun n1 =>
C0 n1 w2) (
J0 k w2)) (a.n : Int) w) fun (k1 : Int) w3 =>
slc a 0 k1 1 fun s =>
R (s.v) w3
def Dc.zigguratref02_norm : Dc := { N := 21, va := [], vb := [], ann := [(2, 0, [(3, .one (.int .i64))]), (3, 2, [(3, .one (.int .i64))]), (0, 2, [(15, .one .bool)])], ext := Xt }
theorem Eq.zigguratref02_norm (a : Sl) (R : Value → TW → Prop) (w : TW) : denF Pg Dc.zigguratref02_norm Go.Proofs.Try.f48 (Go.Proofs.Try.f48.body.getD .skip) [a.v] w R = Sh.zigguratref02_norm a R w := by kernel_rfl
theorem Ct.zigguratref02_norm {a : Sl} {w : TW} {X : Nat → Prop} {K : Tel (fl [.one .slice]) (TW → Prop)} (h : Sh.zigguratref02_norm a (Rt X [.one .slice] K w) w.here) : Ct Pg F.zigguratref02_norm [a.v] w X [.one .slice] K :=
  ct_of_den (D := Dc.zigguratref02_norm) (fn := Go.Proofs.Try.f48) Xt_ok follows_ok (by kernel_rfl) (by kernel_rfl) (by kernel_rfl) (Eq.mpr (Eq.zigguratref02_norm a _ _) h)

def Sh.zigguratref02_Cmp (a : Sl) (b : Sl) (R : Value → TW → Prop) (w : TW) : Prop :=
cond (((a.n : Int) : Int) != (b.n : Int)) (
cond (decide (((a.n : Int) : Int) < (b.n : Int))) (
R (.int .i64 (-1)) w) (
R (.int .i64 1) w)) (
bnd (wi ((a.n : Int) - 1)) fun n =>
Jn [] (fun J0 =>
Lp [.int .i64] (fun (i : Int) w1 C0 =>
cond (decide ((i : Int) ≥ 0)) (
ixa a i 1 fun a1 =>
ldc (.int .u64) w1.drew a1 fun (v : Int) =>
ixa b i 1 fun a2 =>
ldc (.int .u64) w1.drew a2 fun (v1 : Int) =>
cond (decide ((v : Int) < v1)) (
R (.int .i64 (-1)) w1.drew) (
ixa a i 1 fun a3 =>
ldc (.int .u64) w1.drew.drew a3 fun (v2 : Int) =>
ixa b i 1 fun a4 =>
ldc (.int .u64) w1.drew.drew a4 fun (v3 : Int) =>
cond (decide ((v2 : Int) > v3)) (
R (.int .i64 1) w1.drew.drew) (
bnd (wi (i - 1)) fun n1 =>
C0 n1 w1.drew.drew))) (
J0 w1)) n w) fun  w2 =>
R (.int .i64 0) w2)
def Dc.zigguratref02_Cmp : Dc := { N := 41, va := [], vb := [], ann := [(2, 0, []), (3, 6, [(5, .one (.int .i64))])], ext := Xt }
theorem Eq.zigguratref02_Cmp (a : Sl) (b : Sl) (R : Value → TW → Prop) (w : TW) : denF Pg Dc.zigguratref02_Cmp Go.Proofs.Try.f49 (Go.Proofs.Try.f49.body.getD .skip) [a.v, b.v] w R = Sh.zigguratref02_Cmp a b R w := by kernel_rfl
theorem Ct.zigguratref02_Cmp {a : Sl} {b : Sl} {w : TW} {X : Nat → Prop} {K : Tel (fl [.one (.int .i64)]) (TW → Prop)} (h : Sh.zigguratref02_Cmp a b (Rt X [.one (.int .i64)] K w) w.here) : Ct Pg F.zigguratref02_Cmp [a.v, b.v] w X [.one (.int .i64)] K :=
  ct_of_den (D := Dc.zigguratref02_Cmp) (fn := Go.Proofs.Try.f49) Xt_ok follows_ok (by kernel_rfl) (by kernel_rfl) (by kernel_rfl) (Eq.mpr (Eq.zigguratref02_Cmp a b _ _) h)

def Sh.zigguratref02_Bits (a : Sl) (R : Value → TW → Prop) (w : TW) : Prop :=
cond (((a.n : Int) : Int) == 0) (
R (.int .i64 0) w) (
bnd (wi ((a.n : Int) - 1)) fun n =>
bnd (wi (32 * n)) fun n1 =>
bnd (wi ((a.n : Int) - 1)) fun n2 =>
ixa a n2 1 fun a1 =>
ldc (.int .u64) w a1 fun (v : Int) =>
Jn [.int .i64] (fun J0 =>
Lp [.int .i64, .int .u64] (fun (n3 : Int) (y : Int) w1 C0 =>
cond (decide ((y : Int) > 0)) (
bnd (wi (n3 + 1)) fun n4 =>
divK .u64 y 2 fun n5 =>
C0 n4 n5 w1) (
J0 n3 w1)) n1 v w) fun (n6 : Int) w2 =>
R (.int .i64 n6) w2)
def Dc.zigguratref02_Bits : Dc := { N := 25, va := [], vb := [], ann := [(2, 0, [(3, .one (.int .i64))]), (3, 5, [(3, .one (.int .i64)), (4, .one (.int .u64))])], ext := Xt }
theorem Eq.zigguratref02_Bits (a : Sl) (R : Value → TW → Prop) (w : TW) : denF Pg Dc.zigguratref02_Bits Go.Proofs.Try.f50 (Go.Proofs.Try.f50.body.getD .skip) [a.v] w R = Sh.zigguratref02_Bits a R w := by kernel_rfl
theorem Ct.zigguratref02_Bits {a : Sl} {w : TW} {X : Nat → Prop} {K : Tel (fl [.one (.int .i64)]) (TW → Prop)} (h : Sh.zigguratref02_Bits a (Rt X [.one (.int .i64)] K w) w.here) : Ct Pg F.zigguratref02_Bits [a.v] w X [.one (.int .i64)] K :=
  ct_of_den (D := Dc.zigguratref02_Bits) (fn := Go.Proofs.Try.f50) Xt_ok follows_ok (by kernel_rfl) (by kernel_rfl) (by kernel_rfl) (Eq.mpr (Eq.zigguratref02_Bits a _ _) h)

def Sh.zigguratref02_twice (r : Sl) (b : Int) (d : Sl) (R : Value → TW → Prop) (w : TW) : Prop :=
Jn [] (fun J0 =>
Lp [.int .u64, .int .i64] (fun (b1 : Int) (i : Int) w1 C0 =>
cond (decide ((i : Int) < (r.n : Int))) (
ixa r i 1 fun a =>
ldc (.int .u64) w1 a fun (v : Int) =>
bnd (wu (2 * v)) fun n =>
bnd (wu (n + b1)) fun n1 =>
remK n1 4294967296 fun n2 =>
ixa r i 1 fun a1 =>
stc w1 a1 (.int .u64 n2) fun w2 =>
divK .u64 n1 4294967296 fun n3 =>
bnd (wi (i + 1)) fun n4 =>
C0 n3 n4 w2) (
J0 w1)) b 0 w) fun  w3 =>
bnd (wi ((r.n : Int) - 1)) fun n5 =>
Jn [.bool] (fun J1 =>
Lp [.bool, .int .i64] (fun (more : Bool) (i1 : Int) w4 C1 =>
cond (decide ((i1 : Int) ≥ 0)) (
Jn [.int .u64] (fun J2 =>
cond (decide ((i1 : Int) < (d.n : Int))) (
ixa d i1 1 fun a2 =>
ldc (.int .u64) w4 a2 fun (v1 : Int) =>
J2 v1 w4) (
J2 0 w4)) fun (y : Int) w5 =>
ixa r i1 1 fun a3 =>
ldc (.int .u64) w5 a3 fun (v2 : Int) =>
cond ((v2 : Int) != y) (
ixa r i1 1 fun a4 =>
ldc (.int .u64) w5 a4 fun (v3 : Int) =>
J1 (decide ((v3 : Int) > y)) w5) (
bnd (wi (i1 - 1)) fun n6 =>
C1 more n6 w5)) (
J1 more w4)) true n5 w3) fun (more1 : Bool) w6 =>
cond (!more1) (
R (.bool false) w6) (
Jn [] (fun J3 =>
Lp [.int .u64, .int .i64] (fun (c : Int) (i2 : Int) w7 C2 =>
cond (decide ((i2 : Int) < (r.n : Int))) (
Jn [.int .u64] (fun J4 =>
cond (decide ((i2 : Int) < (d.n : Int))) (
ixa d i2 1 fun a5 =>
ldc (.int .u64) w7 a5 fun (v4 : Int) =>
bnd (wu (c + v4)) fun n7 =>
J4 n7 w7) (
J4 c w7)) fun (s : Int) w8 =>
ixa r i2 1 fun a6 =>
ldc (.int .u64) w8 a6 fun (v5 : Int) =>
Jn [.int .u64] (fun J5 =>
cond (decide ((v5 : Int) ≥ s)) (
ixa r i2 1 fun a7 =>
ldc (.int .u64) w8 a7 fun (v6 : Int) =>
bnd (wu (v6 - s)) fun n8 =>
ixa r i2 1 fun a8 =>
stc w8 a8 (.int .u64 n8) fun w9 =>
J5 0 w9) (
ixa r i2 1 fun a9 =>
ldc (.int .u64) w8 a9 fun (v7 : Int) =>
bnd (wu (4294967296 - s)) fun n9 =>
bnd (wu (v7 + n9)) fun n10 =>
ixa r i2 1 fun a10 =>
stc w8 a10 (.int .u64 n10) fun w10 =>
J5 1 w10)) fun (c1 : Int) w11 =>
bnd (wi (i2 + 1)) fun n11 =>
C2 c1 n11 w11) (
J3 w7)) 0 0 w6) fun  w12 =>
R (.bool true) w12)
def Dc.zigguratref02_twice : Dc := { N := 102, va := [], vb := [], ann := [(2, 0, []), (3, 2, [(1, .one (.int .u64)), (7, .one (.int .i64))]), (2, 2, [(9, .one .bool)]), (3, 9, [(9, .one .bool), (10, .one (.int .i64))]), (1, 13, [(11, .one (.int .u64))]), (2, 4, []), (3, 20, [(12, .one (.int .u64)), (13, .one (.int .i64))]), (1, 24, [(14, .one (.int .u64))]), (1, 26, [(12, .one (.int .u64))])], ext := Xt }
theorem Eq.zigguratref02_twice (r : Sl) (b : Int) (d : Sl) (R : Value → TW → Prop) (w : TW) : denF Pg Dc.zigguratref02_twice Go.Proofs.Try.f51 (Go.Proofs.Try.f51.body.getD .skip) [r.v, .int .u64 b, d.v] w R = Sh.zigguratref02_twice r b d R w := by kernel_rfl
theorem Ct.zigguratref02_twice {r : Sl} {b : Int} {d : Sl} {w : TW} {X : Nat → Prop} {K : Tel (fl [.one .bool]) (TW → Prop)} (h : Sh.zigguratref02_twice r b d (Rt X [.one .bool] K w) w.here) : Ct Pg F.zigguratref02_twice [r.v, .int .u64 b, d.v] w X [.one .bool] K :=
  ct_of_den (D := Dc.zigguratref02_twice) (fn := Go.Proofs.Try.f51) Xt_ok follows_ok (by kernel_rfl) (by kernel_rfl) (by kernel_rfl) (Eq.mpr (Eq.zigguratref02_twice r b d _ _) h)

def Sh.zigguratref02_bit (a : Sl) (i : Int) (R : Value → TW → Prop) (w : TW) : Prop :=
divK .i64 i 32 fun n =>
ixa a n 1 fun a1 =>
ldc (.int .u64) w a1 fun (v : Int) =>
remK i 32 fun n1 =>
bnd (wu (n1)) fun n2 =>
shrK .u64 v n2 fun n3 =>
bnd (bits2 .and .u64 n3 1) fun n4 =>
R (.int .u64 n4) w
def Dc.zigguratref02_bit : Dc := { N := 15, va := [], vb := [], ann := [], ext := Xt }
theorem Eq.zigguratref02_bit (a : Sl) (i : Int) (R : Value → TW → Prop) (w : TW) : denF Pg Dc.zigguratref02_bit Go.Proofs.Try.f52 (Go.Proofs.Try.f52.body.getD .skip) [a.v, .int .i64 i] w R = Sh.zigguratref02_bit a i R w := by kernel_rfl
theorem Ct.zigguratref02_bit {a : Sl} {i : Int} {w : TW} {X : Nat → Prop} {K : Tel (fl [.one (.int .u64)]) (TW → Prop)} (h : Sh.zigguratref02_bit a i (Rt X [.one (.int .u64)] K w) w.here) : Ct Pg F.zigguratref02_bit [a.v, .int .i64 i] w X [.one (.int .u64)] K :=
  ct_of_den (D := Dc.zigguratref02_bit) (fn := Go.Proofs.Try.f52) Xt_ok follows_ok (by kernel_rfl) (by kernel_rfl) (by kernel_rfl) (Eq.mpr (Eq.zigguratref02_bit a i _ _) h)

def Sh.zigguratref02_Sub (a : Sl) (b : Sl) (R : Value → TW → Prop) (w : TW) : Prop :=
mks w 0 (a.n : Int) T.uint64 8 [.int .u64 0] fun s w1 =>
Jn [.slice] (fun J0 =>
Lp [.slice, .int .u64, .int .i64] (fun (out : Sl) (c : Int) (i : Int) w2 C0 =>
cond (decide ((i : Int) < (a.n : Int))) (
Jn [.int .u64] (fun J1 =>
cond (decide ((i : Int) < (b.n : Int))) (
ixa b i 1 fun a1 =>
ldc (.int .u64) w2 a1 fun (v : Int) =>
bnd (wu (c + v)) fun n =>
J1 n w2) (
J1 c w2)) fun (s1 : Int) w3 =>
ixa a i 1 fun a2 =>
ldc (.int .u64) w3 a2 fun (v1 : Int) =>
Jn [.slice, .int .u64] (fun J2 =>
cond (decide ((v1 : Int) ≥ s1)) (
ixa a i 1 fun a3 =>
ldc (.int .u64) w3 a3 fun (v2 : Int) =>
bnd (wu (v2 - s1)) fun n1 =>
nwb w3 [.int .u64 n1] T.uint64 fun b1 w4 =>
apd w4 T.uint64 1 8 out ⟨(some ⟨b1, 0, none⟩), 1, 1⟩ fun s2 w5 =>
J2 s2 0 w5) (
ixa a i 1 fun a4 =>
ldc (.int .u64) w3 a4 fun (v3 : Int) =>
bnd (wu (v3 + 4294967296)) fun n2 =>
bnd (wu (n2 - s1)) fun n3 =>
nwb w3 [.int .u64 n3] T.uint64 fun b2 w6 =>
apd w6 T.uint64 1 8 out ⟨(some ⟨b2, 0, none⟩), 1, 1⟩ fun s3 w7 =>
J2 s3 1 w7)) fun (out1 : Sl) (c1 : Int) w8 =>
bnd (wi (i + 1)) fun n4 =>
C0 out1 c1 n4 w8) (
J0 out w2)) s 0 0 w1) fun (out2 : Sl) w9 =>
cl Pg F.zigguratref02_norm [out2.v] w9 [.one .slice] fun (s4 : Sl) w10 =>
R (s4.v) w10
def Dc.zigguratref02_Sub : Dc := { N := 56, va := [], vb := [], ann := [(2, 0, [(5, .one .slice)]), (3, 4, [(5, .one .slice), (6, .one (.int .u64)), (7, .one (.int .i64))]), (1, 8, [(8, .one (.int .u64))]), (1, 10, [(5, .one .slice), (6, .one (.int .u64))])], ext := Xt }
theorem Eq.zigguratref02_Sub (a : Sl) (b : Sl) (R : Value → TW → Prop) (w : TW) : denF Pg Dc.zigguratref02_Sub Go.Proofs.Try.f62 (Go.Proofs.Try.f62.body.getD .skip) [a.v, b.v] w R = Sh.zigguratref02_Sub a b R w := by kernel_rfl
theorem Ct.zigguratref02_Sub {a : Sl} {b : Sl} {w : TW} {X : Nat → Prop} {K : Tel (fl [.one .slice]) (TW → Prop)} (h : Sh.zigguratref02_Sub a b (Rt X [.one .slice] K w) w.here) : Ct Pg F.zigguratref02_Sub [a.v, b.v] w X [.one .slice] K :=
  ct_of_den (D := Dc.zigguratref02_Sub) (fn := Go.Proofs.Try.f62) Xt_ok follows_ok (by kernel_rfl) (by kernel_rfl) (by kernel_rfl) (Eq.mpr (Eq.zigguratref02_Sub a b _ _) h)

def Sh.zigguratref02_Shl (a : Sl) (n : Int) (R : Value → TW → Prop) (w : TW) : Prop :=
cond (((a.n : Int) : Int) == 0) (
R (.slice none 0 0) w) (
divK .i64 n 32 fun n1 =>
divK .i64 n 32 fun n2 =>
bnd (wi (n2 + (a.n : Int))) fun n3 =>
bnd (wi (n3 + 1)) fun n4 =>
mks w n1 n4 T.uint64 8 [.int .u64 0] fun s w1 =>
Jn [.slice, .int .u64] (fun J0 =>
Lp [.slice, .int .u64, .int .i64] (fun (out : Sl) (c : Int) (i : Int) w2 C0 =>
cond (decide ((i : Int) < (a.n : Int))) (
ixa a i 1 fun a1 =>
ldc (.int .u64) w2 a1 fun (v : Int) =>
remK n 32 fun n5 =>
bnd (wu (n5)) fun n6 =>
shlK .u64 v n6 fun n7 =>
bnd (wu (c + n7)) fun n8 =>
remK n8 4294967296 fun n9 =>
nwb w2 [.int .u64 n9] T.uint64 fun b w3 =>
apd w3 T.uint64 1 8 out ⟨(some ⟨b, 0, none⟩), 1, 1⟩ fun s1 w4 =>
divK .u64 n8 4294967296 fun n10 =>
bnd (wi (i + 1)) fun n11 =>
C0 s1 n10 n11 w4) (
J0 out c w2)) s 0 0 w1) fun (out1 : Sl) (c1 : Int) w5 =>
nwb w5 [.int .u64 c1] T.uint64 fun b1 w6 =>
apd w6 T.uint64 1 8 out1 ⟨(some ⟨b1, 0, none⟩), 1, 1⟩ fun s2 w7 =>
cl Pg F.zigguratref02_norm [s2.v] w7 [.one .slice] fun (s3 : Sl) w8 =>
R (s3.v) w8)
def Dc.zigguratref02_Shl : Dc := { N := 48, va := [], vb := [], ann := [(2, 0, [(5, .one .slice), (6, .one (.int .u64))]), (3, 6, [(5, .one .slice), (6, .one (.int .u64)), (7, .one (.int .i64))])], ext := Xt }
theorem Eq.zigguratref02_Shl (a : Sl) (n : Int) (R : Value → TW → Prop) (w : TW) : denF Pg Dc.zigguratref02_Shl Go.Proofs.Try.f63 (Go.Proofs.Try.f63.body.getD .skip) [a.v, .int .i64 n] w R = Sh.zigguratref02_Shl a n R w := by kernel_rfl
theorem Ct.zigguratref02_Shl {a : Sl} {n : Int} {w : TW} {X : Nat → Prop} {K : Tel (fl [.one .slice]) (TW → Prop)} (h : Sh.zigguratref02_Shl a n (Rt X [.one .slice] K w) w.here) : Ct Pg F.zigguratref02_Shl [a.v, .int .i64 n] w X [.one .slice] K :=
  ct_of_den (D := Dc.zigguratref02_Shl) (fn := Go.Proofs.Try.f63) Xt_ok follows_ok (by kernel_rfl) (by kernel_rfl) (by kernel_rfl) (Eq.mpr (Eq.zigguratref02_Shl a n _ _) h)

def Sh.zigguratref02_Add (a : Sl) (b : Sl) (R : Value → TW → Prop) (w : TW) : Prop :=
bnd (if ((b.n : Int) : Int) > (a.n : Int) then (b.n : Int) else (a.n : Int)) fun n =>
bnd (wi (n + 1)) fun n1 =>
mks w 0 n1 T.uint64 8 [.int .u64 0] fun s w1 =>
Jn [.slice] (fun J0 =>
Lp [.slice, .int .u64, .int .i64] (fun (out : Sl) (c : Int) (i : Int) w2 C0 =>
Jn [.bool] (fun J1 =>
cond (decide ((i : Int) < (a.n : Int))) (
J1 true w2) (
cond (decide ((i : Int) < (b.n : Int))) (
J1 true w2) (
J1 (decide ((c : Int) > 0)) w2))) fun (x : Bool) w3 =>
cond x (
Jn [.int .u64] (fun J2 =>
cond (decide ((i : Int) < (a.n : Int))) (
ixa a i 1 fun a1 =>
ldc (.int .u64) w3 a1 fun (v : Int) =>
bnd (wu (c + v)) fun n2 =>
J2 n2 w3) (
J2 c w3)) fun (c1 : Int) w4 =>
Jn [.int .u64] (fun J3 =>
cond (decide ((i : Int) < (b.n : Int))) (
ixa b i 1 fun a2 =>
ldc (.int .u64) w4 a2 fun (v1 : Int) =>
bnd (wu (c1 + v1)) fun n3 =>
J3 n3 w4) (
J3 c1 w4)) fun (c2 : Int) w5 =>
remK c2 4294967296 fun n4 =>
nwb w5 [.int .u64 n4] T.uint64 fun b1 w6 =>
apd w6 T.uint64 1 8 out ⟨(some ⟨b1, 0, none⟩), 1, 1⟩ fun s1 w7 =>
divK .u64 c2 4294967296 fun n5 =>
bnd (wi (i + 1)) fun n6 =>
C0 s1 n5 n6 w7) (
J0 out w3)) s 0 0 w1) fun (out1 : Sl) w8 =>
cl Pg F.zigguratref02_norm [out1.v] w8 [.one .slice] fun (s2 : Sl) w9 =>
R (s2.v) w9
def Dc.zigguratref02_Add : Dc := { N := 60, va := [], vb := [], ann := [(2, 0, [(5, .one .slice)]), (3, 4, [(5, .one .slice), (6, .one (.int .u64)), (7, .one (.int .i64))]), (0, 4, [(28, .one .bool)]), (1, 7, [(6, .one (.int .u64))]), (1, 9, [(6, .one (.int .u64))])], ext := Xt }
theorem Eq.zigguratref02_Add (a : Sl) (b : Sl) (R : Value → TW → Prop) (w : TW) : denF Pg Dc.zigguratref02_Add Go.Proofs.Try.f65 (Go.Proofs.Try.f65.body.getD .skip) [a.v, b.v] w R = Sh.zigguratref02_Add a b R w := by kernel_rfl
theorem Ct.zigguratref02_Add {a : Sl} {b : Sl} {w : TW} {X : Nat → Prop} {K : Tel (fl [.one .slice]) (TW → Prop)} (h : Sh.zigguratref02_Add a b (Rt X [.one .slice] K w) w.here) : Ct Pg F.zigguratref02_Add [a.v, b.v] w X [.one .slice] K :=
  ct_of_den (D := Dc.zigguratref02_Add) (fn := Go.Proofs.Try.f65) Xt_ok follows_ok (by kernel_rfl) (by kernel_rfl) (by kernel_rfl) (Eq.mpr (Eq.zigguratref02_Add a b _ _) h)
end Go.Proofs.Ytdkhilllajdnpaa.Zg
end

section
set_option maxRecDepth 100000
namespace Go.Proofs.Ytdkhilllajdnpaa.Zg
def Sh.zigguratref17_Nat (n : Sl) (R : Value → TW → Prop) (w : TW) : Prop :=
nwv w fun w1 =>
nwv w1 fun w2 =>
R (.agg #[n.v, .bool false]) w2
def Dc.zigguratref17_Nat : Dc := { N := 5, va := [(2, 5)], vb := [(5, 2)], ann := [], ext := Xt }
theorem Eq.zigguratref17_Nat (n : Sl) (R : Value → TW → Prop) (w : TW) : denF Pg Dc.zigguratref17_Nat Go.Proofs.Try.f23 (Go.Proofs.Try.f23.body.getD .skip) [n.v] w R = Sh.zigguratref17_Nat n R w := by kernel_rfl
theorem Ct.zigguratref17_Nat {n : Sl} {w : TW} {X : Nat → Prop} {K : Tel (fl [.agg [.slice, .bool]]) (TW → Prop)} (h : Sh.zigguratref17_Nat n (Rt X [.agg [.slice, .bool]] K w) w.here) : Ct Pg F.zigguratref17_Nat [n.v] w X [.agg [.slice, .bool]] K :=
  ct_of_den (D := Dc.zigguratref17_Nat) (fn := Go.Proofs.Try.f23) Xt_ok follows_ok (by kernel_rfl) (by kernel_rfl) (by kernel_rfl) (Eq.mpr (Eq.zigguratref17_Nat n _ _) h)

def Sh.zigguratref17_Add (a0 : Sl) (a1 : Bool) (b0 : Sl) (b1 : Bool) (R : Value → TW → Prop) (w : TW) : Prop :=
nwv w fun w1 =>
nwv w1 fun w2 =>
nwv w2 fun w3 =>
cond (a1 == b1) (
cl Pg F.zigguratref02_Add [a0.v, b0.v] w3.drew [.one .slice] fun (s : Sl) w4 =>
cl Pg F.zigguratref17_made [s.v, .bool a1] w4 [.agg [.slice, .bool]] fun (r : Sl) (r1 : Bool) w5 =>
nwv w5 fun w6 =>
R (.agg #[r.v, .bool r1]) w6) (
cl Pg F.zigguratref02_Cmp [a0.v, b0.v] w3 [.one (.int .i64)] fun (r2 : Int) w7 =>
cond (decide ((r2 : Int) ≥ 0)) (
cl Pg F.zigguratref02_Sub [a0.v, b0.v] w7.drew [.one .slice] fun (s1 : Sl) w8 =>
cl Pg F.zigguratref17_made [s1.v, .bool a1] w8 [.agg [.slice, .bool]] fun (r3 : Sl) (r4 : Bool) w9 =>
nwv w9 fun w10 =>
R (.agg #[r3.v, .bool r4]) w10) (
cl Pg F.zigguratref02_Sub [b0.v, a0.v] w7.drew [.one .slice] fun (s2 : Sl) w11 =>
cl Pg F.zigguratref17_made [s2.v, .bool b1] w11 [.agg [.slice, .bool]] fun (r5 : Sl) (r6 : Bool) w12 =>
nwv w12 fun w13 =>
R (.agg #[r5.v, .bool r6]) w13))
def Dc.zigguratref17_Add : Dc := { N := 40, va := [(2, 40), (3, 42), (4, 44)], vb := [(40, 2), (42, 2), (44, 2)], ann := [], ext := Xt }
theorem Eq.zigguratref17_Add (a0 : Sl) (a1 : Bool) (b0 : Sl) (b1 : Bool) (R : Value → TW → Prop) (w : TW) : denF Pg Dc.zigguratref17_Add Go.Proofs.Try.f26 (Go.Proofs.Try.f26.body.getD .skip) [.agg #[a0.v, .bool a1], .agg #[b0.v, .bool b1]] w R = Sh.zigguratref17_Add a0 a1 b0 b1 R w := by kernel_rfl
theorem Ct.zigguratref17_Add {a0 : Sl} {a1 : Bool} {b0 : Sl} {b1 : Bool} {w : TW} {X : Nat → Prop} {K : Tel (fl [.agg [.slice, .bool]]) (TW → Prop)} (h : Sh.zigguratref17_Add a0 a1 b0 b1 (Rt X [.agg [.slice, .bool]] K w) w.here) : Ct Pg F.zigguratref17_Add [.agg #[a0.v, .bool a1], .agg #[b0.v, .bool b1]] w X [.agg [.slice, .bool]] K :=
  ct_of_den (D := Dc.zigguratref17_Add) (fn := Go.Proofs.Try.f26) Xt_ok follows_ok (by kernel_rfl) (by kernel_rfl) (by kernel_rfl) (Eq.mpr (Eq.zigguratref17_Add a0 a1 b0 b1 _ _) h)

def Sh.zigguratref17_Small (n : Int) (R : Value → TW → Prop) (w : TW) : Prop :=
nwv w fun w1 =>
cond (decide ((n : Int) < 0)) (
bnd (wi (0 - n)) fun n1 =>
bnd (wu (n1)) fun n2 =>
cl Pg F.zigguratref02_Small [.int .u64 n2] w1 [.one .slice] fun (s : Sl) w2 =>
cl Pg F.zigguratref17_made [s.v, .bool true] w2 [.agg [.slice, .bool]] fun (r : Sl) (r1 : Bool) w3 =>
nwv w3 fun w4 =>
R (.agg #[r.v, .bool r1]) w4) (
bnd (wu (n)) fun n3 =>
cl Pg F.zigguratref02_Small [.int .u64 n3] w1 [.one .slice] fun (s1 : Sl) w5 =>
cl Pg F.zigguratref17_made [s1.v, .bool false] w5 [.agg [.slice, .bool]] fun (r2 : Sl) (r3 : Bool) w6 =>
nwv w6 fun w7 =>
R (.agg #[r2.v, .bool r3]) w7)
def Dc.zigguratref17_Small : Dc := { N := 14, va := [(2, 14)], vb := [(14, 2)], ann := [], ext := Xt }
theorem Eq.zigguratref17_Small (n : Int) (R : Value → TW → Prop) (w : TW) : denF Pg Dc.zigguratref17_Small Go.Proofs.Try.f27 (Go.Proofs.Try.f27.body.getD .skip) [.int .i64 n] w R = Sh.zigguratref17_Small n R w := by kernel_rfl
theorem Ct.zigguratref17_Small {n : Int} {w : TW} {X : Nat → Prop} {K : Tel (fl [.agg [.slice, .bool]]) (TW → Prop)} (h : Sh.zigguratref17_Small n (Rt X [.agg [.slice, .bool]] K w) w.here) : Ct Pg F.zigguratref17_Small [.int .i64 n] w X [.agg [.slice, .bool]] K :=
  ct_of_den (D := Dc.zigguratref17_Small) (fn := Go.Proofs.Try.f27) Xt_ok follows_ok (by kernel_rfl) (by kernel_rfl) (by kernel_rfl) (Eq.mpr (Eq.zigguratref17_Small n _ _) h)

def Sh.zigguratref17_Mul (a0 : Sl) (a1 : Bool) (b0 : Sl) (b1 : Bool) (R : Value → TW → Prop) (w : TW) : Prop :=
nwv w fun w1 =>
nwv w1 fun w2 =>
nwv w2 fun w3 =>
cl Pg F.zigguratref02_Mul [a0.v, b0.v] w3.drew [.one .slice] fun (s : Sl) w4 =>
cl Pg F.zigguratref17_made [s.v, .bool (!(a1 == b1))] w4 [.agg [.slice, .bool]] fun (r : Sl) (r1 : Bool) w5 =>
nwv w5 fun w6 =>
R (.agg #[r.v, .bool r1]) w6
def Dc.zigguratref17_Mul : Dc := { N := 16, va := [(2, 16), (3, 18), (4, 20)], vb := [(16, 2), (18, 2), (20, 2)], ann := [], ext := Xt }
theorem Eq.zigguratref17_Mul (a0 : Sl) (a1 : Bool) (b0 : Sl) (b1 : Bool) (R : Value → TW → Prop) (w : TW) : denF Pg Dc.zigguratref17_Mul Go.Proofs.Try.f28 (Go.Proofs.Try.f28.body.getD .skip) [.agg #[a0.v, .bool a1], .agg #[b0.v, .bool b1]] w R = Sh.zigguratref17_Mul a0 a1 b0 b1 R w := by kernel_rfl
theorem Ct.zigguratref17_Mul {a0 : Sl} {a1 : Bool} {b0 : Sl} {b1 : Bool} {w : TW} {X : Nat → Prop} {K : Tel (fl [.agg [.slice, .bool]]) (TW → Prop)} (h : Sh.zigguratref17_Mul a0 a1 b0 b1 (Rt X [.agg [.slice, .bool]] K w) w.here) : Ct Pg F.zigguratref17_Mul [.agg #[a0.v, .bool a1], .agg #[b0.v, .bool b1]] w X [.agg [.slice, .bool]] K :=
  ct_of_den (D := Dc.zigguratref17_Mul) (fn := Go.Proofs.Try.f28) Xt_ok follows_ok (by kernel_rfl) (by kernel_rfl) (by kernel_rfl) (Eq.mpr (Eq.zigguratref17_Mul a0 a1 b0 b1 _ _) h)

def Sh.zigguratref17_To (a0 : Sl) (a1 : Bool) (R : Value → TW → Prop) (w : TW) : Prop :=
nwv w fun w1 =>
nwv w1 fun w2 =>
cl Pg F.zigguratref02_To [a0.v] w2.drew [.one .slice] fun (s : Sl) w3 =>
nwv w3 fun w4 =>
R (.agg #[s.v, .bool a1]) w4
def Dc.zigguratref17_To : Dc := { N := 9, va := [(1, 9), (2, 11)], vb := [(9, 2), (11, 2)], ann := [], ext := Xt }
theorem Eq.zigguratref17_To (a0 : Sl) (a1 : Bool) (R : Value → TW → Prop) (w : TW) : denF Pg Dc.zigguratref17_To Go.Proofs.Try.f30 (Go.Proofs.Try.f30.body.getD .skip) [.agg #[a0.v, .bool a1]] w R = Sh.zigguratref17_To a0 a1 R w := by kernel_rfl
theorem Ct.zigguratref17_To {a0 : Sl} {a1 : Bool} {w : TW} {X : Nat → Prop} {K : Tel (fl [.agg [.slice, .bool]]) (TW → Prop)} (h : Sh.zigguratref17_To a0 a1 (Rt X [.agg [.slice, .bool]] K w) w.here) : Ct Pg F.zigguratref17_To [.agg #[a0.v, .bool a1]] w X [.agg [.slice, .bool]] K :=
  ct_of_den (D := Dc.zigguratref17_To) (fn := Go.Proofs.Try.f30) Xt_ok follows_ok (by kernel_rfl) (by kernel_rfl) (by kernel_rfl) (Eq.mpr (Eq.zigguratref17_To a0 a1 _ _) h)

def Sh.zigguratref17_Sub (a0 : Sl) (a1 : Bool) (b0 : Sl) (b1 : Bool) (R : Value → TW → Prop) (w : TW) : Prop :=
nwv w fun w1 =>
nwv w1 fun w2 =>
nwv w2 fun w3 =>
cl Pg F.zigguratref17_Neg [.agg #[b0.v, .bool b1]] w3.drew [.agg [.slice, .bool]] fun (r : Sl) (r1 : Bool) w4 =>
cl Pg F.zigguratref17_Add [.agg #[a0.v, .bool a1], .agg #[r.v, .bool r1]] w4 [.agg [.slice, .bool]] fun (r2 : Sl) (r3 : Bool) w5 =>
nwv w5 fun w6 =>
R (.agg #[r2.v, .bool r3]) w6
def Dc.zigguratref17_Sub : Dc := { N := 9, va := [(2, 9), (3, 11), (4, 13)], vb := [(9, 2), (11, 2), (13, 2)], ann := [], ext := Xt }
theorem Eq.zigguratref17_Sub (a0 : Sl) (a1 : Bool) (b0 : Sl) (b1 : Bool) (R : Value → TW → Prop) (w : TW) : denF Pg Dc.zigguratref17_Sub Go.Proofs.Try.f31 (Go.Proofs.Try.f31.body.getD .skip) [.agg #[a0.v, .bool a1], .agg #[b0.v, .bool b1]] w R = Sh.zigguratref17_Sub a0 a1 b0 b1 R w := by kernel_rfl
theorem Ct.zigguratref17_Sub {a0 : Sl} {a1 : Bool} {b0 : Sl} {b1 : Bool} {w : TW} {X : Nat → Prop} {K : Tel (fl [.agg [.slice, .bool]]) (TW → Prop)} (h : Sh.zigguratref17_Sub a0 a1 b0 b1 (Rt X [.agg [.slice, .bool]] K w) w.here) : Ct Pg F.zigguratref17_Sub [.agg #[a0.v, .bool a1], .agg #[b0.v, .bool b1]] w X [.agg [.slice, .bool]] K :=
  ct_of_den (D := Dc.zigguratref17_Sub) (fn := Go.Proofs.Try.f31) Xt_ok follows_ok (by kernel_rfl) (by kernel_rfl) (by kernel_rfl) (Eq.mpr (Eq.zigguratref17_Sub a0 a1 b0 b1 _ _) h)

def Sh.zigguratref17_made (n : Sl) (neg : Bool) (R : Value → TW → Prop) (w : TW) : Prop :=
nwv w fun w1 =>
Jn [.slice, .bool] (fun J0 =>
cond neg (
cl Pg F.zigguratref02_Zero [n.v] w1 [.one .bool] fun (ok : Bool) w2 =>
nwv w2 fun w3 =>
J0 n (!ok) w3) (
nwv w1 fun w4 =>
J0 n false w4)) fun (x : Sl) (x1 : Bool) w5 =>
R (.agg #[x.v, .bool x1]) w5
def Dc.zigguratref17_made : Dc := { N := 13, va := [(4, 13)], vb := [(13, 2)], ann := [(0, 1, [(13, .one .slice), (14, .one .bool)])], ext := Xt }
theorem Eq.zigguratref17_made (n : Sl) (neg : Bool) (R : Value → TW → Prop) (w : TW) : denF Pg Dc.zigguratref17_made Go.Proofs.Try.f64 (Go.Proofs.Try.f64.body.getD .skip) [n.v, .bool neg] w R = Sh.zigguratref17_made n neg R w := by kernel_rfl
theorem Ct.zigguratref17_made {n : Sl} {neg : Bool} {w : TW} {X : Nat → Prop} {K : Tel (fl [.agg [.slice, .bool]]) (TW → Prop)} (h : Sh.zigguratref17_made n neg (Rt X [.agg [.slice, .bool]] K w) w.here) : Ct Pg F.zigguratref17_made [n.v, .bool neg] w X [.agg [.slice, .bool]] K :=
  ct_of_den (D := Dc.zigguratref17_made) (fn := Go.Proofs.Try.f64) Xt_ok follows_ok (by kernel_rfl) (by kernel_rfl) (by kernel_rfl) (Eq.mpr (Eq.zigguratref17_made n neg _ _) h)

def Sh.zigguratref17_Neg (a0 : Sl) (a1 : Bool) (R : Value → TW → Prop) (w : TW) : Prop :=
nwv w fun w1 =>
nwv w1 fun w2 =>
cl Pg F.zigguratref17_made [a0.v, .bool (!a1)] w2 [.agg [.slice, .bool]] fun (r : Sl) (r1 : Bool) w3 =>
nwv w3 fun w4 =>
R (.agg #[r.v, .bool r1]) w4
def Dc.zigguratref17_Neg : Dc := { N := 9, va := [(1, 9), (2, 11)], vb := [(9, 2), (11, 2)], ann := [], ext := Xt }
theorem Eq.zigguratref17_Neg (a0 : Sl) (a1 : Bool) (R : Value → TW → Prop) (w : TW) : denF Pg Dc.zigguratref17_Neg Go.Proofs.Try.f66 (Go.Proofs.Try.f66.body.getD .skip) [.agg #[a0.v, .bool a1]] w R = Sh.zigguratref17_Neg a0 a1 R w := by kernel_rfl
theorem Ct.zigguratref17_Neg {a0 : Sl} {a1 : Bool} {w : TW} {X : Nat → Prop} {K : Tel (fl [.agg [.slice, .bool]]) (TW → Prop)} (h : Sh.zigguratref17_Neg a0 a1 (Rt X [.agg [.slice, .bool]] K w) w.here) : Ct Pg F.zigguratref17_Neg [.agg #[a0.v, .bool a1]] w X [.agg [.slice, .bool]] K :=
  ct_of_den (D := Dc.zigguratref17_Neg) (fn := Go.Proofs.Try.f66) Xt_ok follows_ok (by kernel_rfl) (by kernel_rfl) (by kernel_rfl) (Eq.mpr (Eq.zigguratref17_Neg a0 a1 _ _) h)
end Go.Proofs.Ytdkhilllajdnpaa.Zg
end
