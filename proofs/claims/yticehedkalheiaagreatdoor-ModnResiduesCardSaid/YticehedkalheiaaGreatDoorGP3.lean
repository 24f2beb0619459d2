/- A part of the proofs of this seat's laws: words, lemmas or contracts of its functions. -/
import Derived.Test.YticehedkalheiaaGreatDoorGC
set_option linter.unusedVariables false
set_option linter.unusedSimpArgs false
set_option linter.unnecessarySimpa false
section
set_option maxRecDepth 100000
namespace Go.Proofs.YticehedkalheiaaGreatDoor.Zg
def Sh.mul_Engine_Mul (e0 : Option Addr) (a : Sl) (b : Sl) (R : Value → TW → Prop) (w : TW) : Prop :=
cl Pg F.mul_words [a.v] w [.one .slice] fun (s : Sl) w1 =>
cl Pg F.mul_words [b.v] w1 [.one .slice] fun (s1 : Sl) w2 =>
cl Pg F.mul_Engine_times [.pointer e0, s.v, s1.v] w2 [.one .slice] fun (s2 : Sl) w3 =>
R (s2.v) w3
theorem Ct.mul_Engine_Mul {e0 : Option Addr} {a : Sl} {b : Sl} {w : TW} {X : Nat → Prop} {K : Tel (fl [.one .slice]) (TW → Prop)} (h : Sh.mul_Engine_Mul e0 a b (Rt X [.one .slice] K w) w.here) : Ct Pg F.mul_Engine_Mul [.pointer e0, a.v, b.v] w X [.one .slice] K :=
 cod (Sh.mul_Engine_Mul e0 a b) 13 [] [] [] Go.Proofs.Tryz.f69 (by kernel_rfl) (by kernel_rfl) (by kernel_rfl) (fun _ _ => by kernel_rfl) h
def Sh.mul_Engine_times (e0 : Option Addr) (a : Sl) (b : Sl) (R : Value → TW → Prop) (w : TW) : Prop :=
Jn [.bool] (fun J0 =>
cond (decide (((a.n : Int) : Int) > 16384)) (
J0 true w) (
J0 (decide (((b.n : Int) : Int) > 16384)) w)) fun (x : Bool) w1 =>
cond x (
cl Pg F.mul_Engine_long [.pointer e0, a.v, b.v] w1 [.one .slice] fun (s : Sl) w2 =>
R (s.v) w2) (
nck e0 fun a1 =>
ldc (.ptr) w1 a1 fun (v : Option Addr) =>
nck v fun a2 =>
ldc (.ptr) w1 a2 fun (v1 : Option Addr) =>
nck v1 fun a3 =>
ldc (.ptr) w1 a3 fun (v2 : Option Addr) =>
nck v2 fun a4 =>
ldc (.ptr) w1 a4 fun (v3 : Option Addr) =>
cl Pg F.table_Tune_Route [.pointer v3, .int .i64 (a.n : Int), .int .i64 (b.n : Int)] w1 [.one (.int .i64)] fun (r : Int) w3 =>
cl Pg F.mul_Engine_gone [.pointer e0, .int .i64 r, a.v, b.v] w3 [.one .slice, .one .bool] fun (s1 : Sl) (ok : Bool) w4 =>
cond (!ok) (
nck e0 fun a5 =>
ldc (.ptr) w4 a5 fun (v4 : Option Addr) =>
nck v4 fun a6 =>
ldc (.ptr) w4 a6 fun (v5 : Option Addr) =>
nck v5 fun a7 =>
ldc (.ptr) w4 a7 fun (v6 : Option Addr) =>
cl Pg F.school_Engine_Mul [.pointer v6, a.v, b.v] w4 [.one .slice] fun (s2 : Sl) w5 =>
R (s2.v) w5) (
R (s1.v) w4))
theorem Ct.mul_Engine_times {e0 : Option Addr} {a : Sl} {b : Sl} {w : TW} {X : Nat → Prop} {K : Tel (fl [.one .slice]) (TW → Prop)} (h : Sh.mul_Engine_times e0 a b (Rt X [.one .slice] K w) w.here) : Ct Pg F.mul_Engine_times [.pointer e0, a.v, b.v] w X [.one .slice] K :=
 cod (Sh.mul_Engine_times e0 a b) 62 [] [] [(0, 1, [(16, .one .bool)])] Go.Proofs.Tryz.f122 (by kernel_rfl) (by kernel_rfl) (by kernel_rfl) (fun _ _ => by kernel_rfl) h
def Sh.mul_words (a : Sl) (R : Value → TW → Prop) (w : TW) : Prop :=
cl Pg F.api_Nat_Len [a.v] w [.one (.int .i64)] fun (r : Int) w1 =>
slc a 0 r 1 fun s =>
R (s.v) w1
theorem Ct.mul_words {a : Sl} {w : TW} {X : Nat → Prop} {K : Tel (fl [.one .slice]) (TW → Prop)} (h : Sh.mul_words a (Rt X [.one .slice] K w) w.here) : Ct Pg F.mul_words [a.v] w X [.one .slice] K :=
 cod (Sh.mul_words a) 7 [] [] [] Go.Proofs.Tryz.f123 (by kernel_rfl) (by kernel_rfl) (by kernel_rfl) (fun _ _ => by kernel_rfl) h
def Sh.mul_Engine_long (e0 : Option Addr) (a : Sl) (b : Sl) (R : Value → TW → Prop) (w : TW) : Prop :=
cl Pg F.mul_Engine_pieces [.pointer e0, a.v, b.v, .int .i64 16384] w [.one .slice] fun (s : Sl) w1 =>
R (s.v) w1
theorem Ct.mul_Engine_long {e0 : Option Addr} {a : Sl} {b : Sl} {w : TW} {X : Nat → Prop} {K : Tel (fl [.one .slice]) (TW → Prop)} (h : Sh.mul_Engine_long e0 a b (Rt X [.one .slice] K w) w.here) : Ct Pg F.mul_Engine_long [.pointer e0, a.v, b.v] w X [.one .slice] K :=
 cod (Sh.mul_Engine_long e0 a b) 11 [] [] [] Go.Proofs.Tryz.f143 (by kernel_rfl) (by kernel_rfl) (by kernel_rfl) (fun _ _ => by kernel_rfl) h
def Sh.mul_Engine_gone (e0 : Option Addr) (route : Int) (a : Sl) (b : Sl) (R : Value → TW → Prop) (w : TW) : Prop :=
cond ((route : Int) == 0) (
R (.tuple #[.slice none 0 0, .bool true]) w) (
cond ((route : Int) == 1) (
nck e0 fun a1 =>
ldc (.ptr) w a1 fun (v : Option Addr) =>
nck v fun a2 =>
ldc (.ptr) w a2 fun (v1 : Option Addr) =>
nck v1 fun a3 =>
ldc (.ptr) w a3 fun (v2 : Option Addr) =>
cl Pg F.school_Engine_Mul [.pointer v2, a.v, b.v] w [.one .slice] fun (s : Sl) w1 =>
R (.tuple #[s.v, .bool true]) w1) (
cond ((route : Int) == 2) (
cl Pg F.mul_Engine_block [.pointer e0, a.v, b.v] w [.one .slice] fun (s1 : Sl) w2 =>
R (.tuple #[s1.v, .bool true]) w2) (
cond ((route : Int) == 3) (
nck e0 fun a4 =>
ldc (.ptr) w a4 fun (v3 : Option Addr) =>
nck v3 fun a5 =>
ldc (.ptr) w a5 fun (v4 : Option Addr) =>
cl Pg F.kara_Engine_Kara [.pointer v4, a.v, b.v, .func (.func F.mul_Engine_times) #[.pointer e0] #[]] w [.one .slice, .one .bool] fun (s2 : Sl) (ok : Bool) w3 =>
R (.tuple #[s2.v, .bool ok]) w3) (
cond ((route : Int) == 4) (
nck e0 fun a6 =>
ldc (.ptr) w a6 fun (v5 : Option Addr) =>
cl Pg F.toom_Engine_Toom [.pointer v5, a.v, b.v, .func (.func F.mul_Engine_times) #[.pointer e0] #[]] w [.one .slice, .one .bool] fun (s3 : Sl) (ok1 : Bool) w4 =>
R (.tuple #[s3.v, .bool ok1]) w4) (
cond ((route : Int) == 5) (
nck e0 fun a7 =>
ldc (.ptr) w a7 fun (v6 : Option Addr) =>
nck v6 fun a8 =>
ldc (.ptr) w a8 fun (v7 : Option Addr) =>
nck v7 fun a9 =>
ldc (.ptr) w a9 fun (v8 : Option Addr) =>
nck v8 fun a10 =>
ldc (.ptr) w a10 fun (v9 : Option Addr) =>
nck v9 fun a11 =>
cl Pg F.conv_Mul [.pointer (some a11), a.v, b.v] w [.one .slice, .one .bool] fun (s4 : Sl) (ok2 : Bool) w5 =>
R (.tuple #[s4.v, .bool ok2]) w5) (
R (.tuple #[.slice none 0 0, .bool false]) w))))))
theorem Ct.mul_Engine_gone {e0 : Option Addr} {route : Int} {a : Sl} {b : Sl} {w : TW} {X : Nat → Prop} {K : Tel (fl [.one .slice, .one .bool]) (TW → Prop)} (h : Sh.mul_Engine_gone e0 route a b (Rt X [.one .slice, .one .bool] K w) w.here) : Ct Pg F.mul_Engine_gone [.pointer e0, .int .i64 route, a.v, b.v] w X [.one .slice, .one .bool] K :=
 cod (Sh.mul_Engine_gone e0 route a b) 85 [] [] [] Go.Proofs.Tryz.f144 (by kernel_rfl) (by kernel_rfl) (by kernel_rfl) (fun _ _ => by kernel_rfl) h
def Sh.mul_Engine_pieces (e0 : Option Addr) (a : Sl) (b : Sl) (n : Int) (R : Value → TW → Prop) (w : TW) : Prop :=
Jn [.slice, .slice] (fun J0 =>
cond (decide (((a.n : Int) : Int) < (b.n : Int))) (
J0 b a w) (
J0 a b w)) fun (a1 : Sl) (b1 : Sl) w1 =>
Jn [.slice] (fun J1 =>
Lp [.slice, .int .i64] (fun (parts : Sl) (from0 : Int) w2 C0 =>
cond (decide ((from0 : Int) < (a1.n : Int))) (
bnd (wi (from0 + n)) fun n1 =>
bnd (if (n1 : Int) < (a1.n : Int) then n1 else (a1.n : Int)) fun n2 =>
slc a1 from0 n2 1 fun s =>
apd w2 T.uint64 1 8 Sl.nil s fun s1 w3 =>
cl Pg F.mul_Engine_times [.pointer e0, s1.v, b1.v] w3 [.one .slice] fun (s2 : Sl) w4 =>
nwb w4 [s2.v] T.api_Nat fun b2 w5 =>
apd w5 T.api_Nat 1 24 parts ⟨(some ⟨b2, 0, none⟩), 1, 1⟩ fun s3 w6 =>
bnd (wi (from0 + n)) fun n3 =>
C0 s3 n3 w6) (
J1 parts w2)) Sl.nil 0 w1) fun (parts1 : Sl) w7 =>
cl Pg F.limb_Join [.int .i64 n, parts1.v] w7 [.one .slice] fun (s4 : Sl) w8 =>
R (s4.v) w8
theorem Ct.mul_Engine_pieces {e0 : Option Addr} {a : Sl} {b : Sl} {n : Int} {w : TW} {X : Nat → Prop} {K : Tel (fl [.one .slice]) (TW → Prop)} (h : Sh.mul_Engine_pieces e0 a b n (Rt X [.one .slice] K w) w.here) : Ct Pg F.mul_Engine_pieces [.pointer e0, a.v, b.v, .int .i64 n] w X [.one .slice] K :=
 cod (Sh.mul_Engine_pieces e0 a b n) 44 [] [] [(1, 2, [(1, .one .slice), (2, .one .slice)]), (2, 0, [(9, .one .slice)]), (3, 5, [(9, .one .slice), (10, .one (.int .i64))])] Go.Proofs.Tryz.f163 (by kernel_rfl) (by kernel_rfl) (by kernel_rfl) (fun _ _ => by kernel_rfl) h
def Sh.mul_Engine_block (e0 : Option Addr) (a : Sl) (b : Sl) (R : Value → TW → Prop) (w : TW) : Prop :=
nck e0 fun a1 =>
ldc (.ptr) w a1 fun (v : Option Addr) =>
nck v fun a2 =>
ldc (.ptr) w a2 fun (v1 : Option Addr) =>
nck v1 fun a3 =>
ldc (.ptr) w a3 fun (v2 : Option Addr) =>
nck v2 fun a4 =>
ldc (.ptr) w a4 fun (v3 : Option Addr) =>
nck v3 fun a5 =>
cl Pg F.meter_Meter_Enter [.pointer (some a5)] w [.one (.int .i64)] fun (_ : Int) w1 =>
bnd (if ((b.n : Int) : Int) < (a.n : Int) then (b.n : Int) else (a.n : Int)) fun n =>
cl Pg F.mul_Engine_pieces [.pointer e0, a.v, b.v, .int .i64 n] w1 [.one .slice] fun (s : Sl) w2 =>
nck e0 fun a6 =>
ldc (.ptr) w2 a6 fun (v4 : Option Addr) =>
nck v4 fun a7 =>
ldc (.ptr) w2 a7 fun (v5 : Option Addr) =>
nck v5 fun a8 =>
ldc (.ptr) w2 a8 fun (v6 : Option Addr) =>
nck v6 fun a9 =>
ldc (.ptr) w2 a9 fun (v7 : Option Addr) =>
nck v7 fun a10 =>
cl Pg F.meter_Meter_Leave [.pointer (some a10)] w2 [.one (.int .i64)] fun (_ : Int) w3 =>
R (s.v) w3
theorem Ct.mul_Engine_block {e0 : Option Addr} {a : Sl} {b : Sl} {w : TW} {X : Nat → Prop} {K : Tel (fl [.one .slice]) (TW → Prop)} (h : Sh.mul_Engine_block e0 a b (Rt X [.one .slice] K w) w.here) : Ct Pg F.mul_Engine_block [.pointer e0, a.v, b.v] w X [.one .slice] K :=
 cod (Sh.mul_Engine_block e0 a b) 50 [] [] [] Go.Proofs.Tryz.f164 (by kernel_rfl) (by kernel_rfl) (by kernel_rfl) (fun _ _ => by kernel_rfl) h
def Sh.mul_New (t : HL [.int .i64, .int .i64, .int .i64, .int .i64, .int .i64, .int .i64, .int .i64, .int .i64, .int .i64, .int .i64, .int .i64]) (R : Value → TW → Prop) (w : TW) : Prop :=
nwv w fun w1 =>
cl Pg F.toom_New [.agg #[.int .i64 t.1, .int .i64 t.2.1, .int .i64 t.2.2.1, .int .i64 t.2.2.2.1, .int .i64 t.2.2.2.2.1, .int .i64 t.2.2.2.2.2.1, .int .i64 t.2.2.2.2.2.2.1, .int .i64 t.2.2.2.2.2.2.2.1, .int .i64 t.2.2.2.2.2.2.2.2.1, .int .i64 t.2.2.2.2.2.2.2.2.2.1, .int .i64 t.2.2.2.2.2.2.2.2.2.2.1]] w1 [.one .ptr] fun (p : Option Addr) w2 =>
nwb w2 [.pointer p] T.mul_Engine fun b w3 =>
R (.pointer (some ⟨b, 0, none⟩)) w3
theorem Ct.mul_New {t : HL [.int .i64, .int .i64, .int .i64, .int .i64, .int .i64, .int .i64, .int .i64, .int .i64, .int .i64, .int .i64, .int .i64]} {w : TW} {X : Nat → Prop} {K : Tel (fl [.one .ptr]) (TW → Prop)} (h : Sh.mul_New t (Rt X [.one .ptr] K w) w.here) : Ct Pg F.mul_New [.agg (encs [.int .i64, .int .i64, .int .i64, .int .i64, .int .i64, .int .i64, .int .i64, .int .i64, .int .i64, .int .i64, .int .i64] t).toArray] w X [.one .ptr] K :=
 cod (Sh.mul_New t) 7 [(1, 7)] [(7, 11)] [] Go.Proofs.Tryz.f223 (by kernel_rfl) (by kernel_rfl) (by kernel_rfl) (fun _ _ => by kernel_rfl) h
end Go.Proofs.YticehedkalheiaaGreatDoor.Zg
end

section
set_option maxRecDepth 100000
namespace Go.Proofs.YticehedkalheiaaGreatDoor.Zg
def Sh.ntt_Plan_Conv (t : Option Addr) (a : Sl) (b : Sl) (R : Value → TW → Prop) (w : TW) : Prop :=
Jn [.bool] (fun J0 =>
cond (((a.n : Int) : Int) == 0) (
J0 true w) (
cond (((b.n : Int) : Int) == 0) (
J0 true w) (
cl Pg F.ntt_Plan_Size [.pointer t] w [.one (.int .i64)] fun (r : Int) w1 =>
cond (decide (((a.n : Int) : Int) > r)) (
J0 true w1) (
cl Pg F.ntt_Plan_Size [.pointer t] w1 [.one (.int .i64)] fun (r1 : Int) w2 =>
bnd (wi (r1 + 1)) fun n =>
bnd (wi (n - (a.n : Int))) fun n1 =>
J0 (decide (((b.n : Int) : Int) > n1)) w2)))) fun (x : Bool) w3 =>
cond x (
R (.tuple #[.slice none 0 0, .bool false]) w3) (
cl Pg F.ntt_Plan_cyclic [.pointer t, a.v, b.v] w3 [.one .slice] fun (s : Sl) w4 =>
bnd (wi ((a.n : Int) + (b.n : Int))) fun n2 =>
bnd (wi (n2 - 1)) fun n3 =>
slc s 0 n3 1 fun s1 =>
R (.tuple #[s1.v, .bool true]) w4)
theorem Ct.ntt_Plan_Conv {t : Option Addr} {a : Sl} {b : Sl} {w : TW} {X : Nat → Prop} {K : Tel (fl [.one .slice, .one .bool]) (TW → Prop)} (h : Sh.ntt_Plan_Conv t a b (Rt X [.one .slice, .one .bool] K w) w.here) : Ct Pg F.ntt_Plan_Conv [.pointer t, a.v, b.v] w X [.one .slice, .one .bool] K :=
 cod (Sh.ntt_Plan_Conv t a b) 45 [] [] [(0, 1, [(33, .one .bool)])] Go.Proofs.Tryz.f203 (by kernel_rfl) (by kernel_rfl) (by kernel_rfl) (fun _ _ => by kernel_rfl) h
def Sh.ntt_New (m : Option Addr) (p : Int) (log : Int) (R : Value → TW → Prop) (w : TW) : Prop :=
cl Pg F.prime_Root [.int .u64 p, .int .i64 log] w [.one (.int .u64), .one (.int .i64)] fun (r : Int) (r1 : Int) w1 =>
cond ((r1 : Int) != 0) (
R (.tuple #[.pointer none, .int .i64 r1]) w1) (
cl Pg F.modw_New [.int .u64 p] w1 [.one .ptr, .one (.int .i64)] fun (p1 : Option Addr) (r2 : Int) w2 =>
cond ((r2 : Int) != 0) (
R (.tuple #[.pointer none, .int .i64 r2]) w2) (
nwb w2 [.pointer p1, .pointer m, .int .i64 log, .slice none 0 0, .slice none 0 0, .slice none 0 0, .slice none 0 0, .int .u64 0] T.ntt_Plan fun b w3 =>
bnd (wu (log)) fun n =>
shlK .u64 1 n fun n1 =>
cl Pg F.modw_Mod_Inv [.pointer p1, .int .u64 n1] w3 [.one (.int .u64), .one .bool] fun (r3 : Int) (_ : Bool) w4 =>
stc w4 (Addr.add ⟨b, 0, none⟩ 7) (.int .u64 r3) fun w5 =>
cl Pg F.modw_Mod_Inv [.pointer p1, .int .u64 r] w5 [.one (.int .u64), .one .bool] fun (r4 : Int) (_ : Bool) w6 =>
divK .u64 n1 2 fun n2 =>
bnd (wi (n2)) fun n3 =>
cl Pg F.ntt_powers [.pointer p1, .int .u64 r, .int .i64 n3] w6 [.one .slice, .one .slice] fun (s : Sl) (s1 : Sl) w7 =>
stc w7 (Addr.add ⟨b, 0, none⟩ 3) s.v fun w8 =>
stc w8 (Addr.add ⟨b, 0, none⟩ 5) s1.v fun w9 =>
divK .u64 n1 2 fun n4 =>
bnd (wi (n4)) fun n5 =>
cl Pg F.ntt_powers [.pointer p1, .int .u64 r4, .int .i64 n5] w9 [.one .slice, .one .slice] fun (s2 : Sl) (s3 : Sl) w10 =>
stc w10 (Addr.add ⟨b, 0, none⟩ 4) s2.v fun w11 =>
stc w11 (Addr.add ⟨b, 0, none⟩ 6) s3.v fun w12 =>
R (.tuple #[.pointer (some ⟨b, 0, none⟩), .int .i64 0]) w12))
theorem Ct.ntt_New {m : Option Addr} {p : Int} {log : Int} {w : TW} {X : Nat → Prop} {K : Tel (fl [.one .ptr, .one (.int .i64)]) (TW → Prop)} (h : Sh.ntt_New m p log (Rt X [.one .ptr, .one (.int .i64)] K w) w.here) : Ct Pg F.ntt_New [.pointer m, .int .u64 p, .int .i64 log] w X [.one .ptr, .one (.int .i64)] K :=
 cod (Sh.ntt_New m p log) 86 [] [] [] Go.Proofs.Tryz.f207 (by kernel_rfl) (by kernel_rfl) (by kernel_rfl) (fun _ _ => by kernel_rfl) h
def Sh.ntt_Plan_Size (t : Option Addr) (R : Value → TW → Prop) (w : TW) : Prop :=
nck t fun a =>
ldc (.int .i64) w (a.add 2) fun (v : Int) =>
bnd (wu (v)) fun n =>
shlK .i64 1 n fun n1 =>
R (.int .i64 n1) w
theorem Ct.ntt_Plan_Size {t : Option Addr} {w : TW} {X : Nat → Prop} {K : Tel (fl [.one (.int .i64)]) (TW → Prop)} (h : Sh.ntt_Plan_Size t (Rt X [.one (.int .i64)] K w) w.here) : Ct Pg F.ntt_Plan_Size [.pointer t] w X [.one (.int .i64)] K :=
 cod (Sh.ntt_Plan_Size t) 9 [] [] [] Go.Proofs.Tryz.f210 (by kernel_rfl) (by kernel_rfl) (by kernel_rfl) (fun _ _ => by kernel_rfl) h
def Sh.ntt_Plan_cyclic (t : Option Addr) (a : Sl) (b : Sl) (R : Value → TW → Prop) (w : TW) : Prop :=
cl Pg F.ntt_Plan_forward [.pointer t, a.v] w [.one .slice] fun (s : Sl) w1 =>
cl Pg F.ntt_Plan_forward [.pointer t, b.v] w1 [.one .slice] fun (s1 : Sl) w2 =>
Jn [] (fun J0 =>
Lp [.int .i64] (fun (x : Int) w3 C0 =>
cond (decide ((x : Int) < (s.n : Int))) (
nck t fun a1 =>
ldc (.ptr) w3.drew a1 fun (v : Option Addr) =>
ixa s x 1 fun a2 =>
ldc (.int .u64) w3.drew a2 fun (v1 : Int) =>
ixa s1 x 1 fun a3 =>
ldc (.int .u64) w3.drew a3 fun (v2 : Int) =>
cl Pg F.modw_Mod_Mul [.pointer v, .int .u64 v1, .int .u64 v2] w3.drew [.one (.int .u64)] fun (r : Int) w4 =>
ixa s x 1 fun a4 =>
stc w4 a4 (.int .u64 r) fun w5 =>
bnd (wi (x + 1)) fun n =>
C0 n w5) (
J0 w3)) 0 w2) fun  w6 =>
nck t fun a5 =>
ldc (.ptr) w6 (a5.add 1) fun (v3 : Option Addr) =>
cl Pg F.meter_Meter_Spend [.pointer v3, .int .i64 (s.n : Int)] w6 [.one (.int .i64)] fun (_ : Int) w7 =>
cl Pg F.ntt_Plan_inverse [.pointer t, s.v] w7 [.one .slice] fun (s2 : Sl) w8 =>
R (s2.v) w8
theorem Ct.ntt_Plan_cyclic {t : Option Addr} {a : Sl} {b : Sl} {w : TW} {X : Nat → Prop} {K : Tel (fl [.one .slice]) (TW → Prop)} (h : Sh.ntt_Plan_cyclic t a b (Rt X [.one .slice] K w) w.here) : Ct Pg F.ntt_Plan_cyclic [.pointer t, a.v, b.v] w X [.one .slice] K :=
 cod (Sh.ntt_Plan_cyclic t a b) 48 [] [] [(2, 0, []), (3, 3, [(18, .one (.int .i64))])] Go.Proofs.Tryz.f211 (by kernel_rfl) (by kernel_rfl) (by kernel_rfl) (fun _ _ => by kernel_rfl) h
def Sh.ntt_powers (m : Option Addr) (y : Int) (n : Int) (R : Value → TW → Prop) (w : TW) : Prop :=
Jn [.slice, .slice] (fun J0 =>
(mks w.drew n n T.uint64 8 [.int .u64 0] fun s w1 =>
mks w1 n n T.uint64 8 [.int .u64 0] fun s1 w2 =>
J0 s s1 w2) ∧
(mks w.drew n n T.uint64 8 [.int .u64 0] fun s2 w3 =>
mks w3 n n T.uint64 8 [.int .u64 0] fun s3 w4 =>
J0 s3 s2 w4)) fun (l : Sl) (s4 : Sl) w5 =>
Jn [] (fun J1 =>
Lp [.int .u64, .int .i64] (fun (x : Int) (x1 : Int) w6 C0 =>
cond (decide ((x1 : Int) < (l.n : Int))) (
ixa l x1 1 fun a =>
stc w6 a (.int .u64 x) fun w7 =>
cl Pg F.modw_Mod_Shoup [.pointer m, .int .u64 x] w7 [.one (.int .u64)] fun (r : Int) w8 =>
ixa s4 x1 1 fun a1 =>
stc w8 a1 (.int .u64 r) fun w9 =>
cl Pg F.modw_Mod_Mul [.pointer m, .int .u64 x, .int .u64 y] w9 [.one (.int .u64)] fun (r1 : Int) w10 =>
bnd (wi (x1 + 1)) fun n1 =>
C0 r1 n1 w10) (
J1 w6)) 1 0 w5) fun  w11 =>
R (.tuple #[l.v, s4.v]) w11
theorem Ct.ntt_powers {m : Option Addr} {y : Int} {n : Int} {w : TW} {X : Nat → Prop} {K : Tel (fl [.one .slice, .one .slice]) (TW → Prop)} (h : Sh.ntt_powers m y n (Rt X [.one .slice, .one .slice] K w) w.here) : Ct Pg F.ntt_powers [.pointer m, .int .u64 y, .int .i64 n] w X [.one .slice, .one .slice] K :=
 cod (Sh.ntt_powers m y n) 38 [] [] [(0, 1, [(8, .one .slice), (9, .one .slice)]), (2, 0, []), (3, 4, [(10, .one (.int .u64)), (18, .one (.int .i64))])] Go.Proofs.Tryz.f218 (by kernel_rfl) (by kernel_rfl) (by kernel_rfl) (fun _ _ => by kernel_rfl) h
def Sh.ntt_Plan_forward (t : Option Addr) (a : Sl) (R : Value → TW → Prop) (w : TW) : Prop :=
cl Pg F.ntt_Plan_turned [.pointer t, a.v] w [.one .slice] fun (s : Sl) w1 =>
nck t fun a1 =>
ldc (.slice) w1.drew (a1.add 3) fun (v : Sl) =>
nck t fun a2 =>
ldc (.slice) w1.drew (a2.add 5) fun (v1 : Sl) =>
cl Pg F.ntt_Plan_transform [.pointer t, s.v, v.v, v1.v] w1.drew [] fun w2 =>
R (s.v) w2
theorem Ct.ntt_Plan_forward {t : Option Addr} {a : Sl} {w : TW} {X : Nat → Prop} {K : Tel (fl [.one .slice]) (TW → Prop)} (h : Sh.ntt_Plan_forward t a (Rt X [.one .slice] K w) w.here) : Ct Pg F.ntt_Plan_forward [.pointer t, a.v] w X [.one .slice] K :=
 cod (Sh.ntt_Plan_forward t a) 21 [] [] [] Go.Proofs.Tryz.f221 (by kernel_rfl) (by kernel_rfl) (by kernel_rfl) (fun _ _ => by kernel_rfl) h
def Sh.ntt_Plan_inverse (t : Option Addr) (a : Sl) (R : Value → TW → Prop) (w : TW) : Prop :=
cl Pg F.ntt_Plan_turned [.pointer t, a.v] w [.one .slice] fun (s : Sl) w1 =>
nck t fun a1 =>
ldc (.slice) w1.drew (a1.add 4) fun (v : Sl) =>
nck t fun a2 =>
ldc (.slice) w1.drew (a2.add 6) fun (v1 : Sl) =>
cl Pg F.ntt_Plan_transform [.pointer t, s.v, v.v, v1.v] w1.drew [] fun w2 =>
Jn [] (fun J0 =>
Lp [.int .i64] (fun (x : Int) w3 C0 =>
cond (decide ((x : Int) < (s.n : Int))) (
ixa s x 1 fun a3 =>
ldc (.int .u64) w3 a3 fun (v2 : Int) =>
nck t fun a4 =>
ldc (.ptr) w3.drew a4 fun (v3 : Option Addr) =>
nck t fun a5 =>
ldc (.int .u64) w3.drew (a5.add 7) fun (v4 : Int) =>
cl Pg F.modw_Mod_Mul [.pointer v3, .int .u64 v2, .int .u64 v4] w3.drew [.one (.int .u64)] fun (r : Int) w4 =>
ixa s x 1 fun a6 =>
stc w4 a6 (.int .u64 r) fun w5 =>
bnd (wi (x + 1)) fun n =>
C0 n w5) (
J0 w3)) 0 w2) fun  w6 =>
nck t fun a7 =>
ldc (.ptr) w6 (a7.add 1) fun (v5 : Option Addr) =>
cl Pg F.meter_Meter_Spend [.pointer v5, .int .i64 (s.n : Int)] w6 [.one (.int .i64)] fun (_ : Int) w7 =>
R (s.v) w7
theorem Ct.ntt_Plan_inverse {t : Option Addr} {a : Sl} {w : TW} {X : Nat → Prop} {K : Tel (fl [.one .slice]) (TW → Prop)} (h : Sh.ntt_Plan_inverse t a (Rt X [.one .slice] K w) w.here) : Ct Pg F.ntt_Plan_inverse [.pointer t, a.v] w X [.one .slice] K :=
 cod (Sh.ntt_Plan_inverse t a) 51 [] [] [(2, 0, []), (3, 4, [(24, .one (.int .i64))])] Go.Proofs.Tryz.f222 (by kernel_rfl) (by kernel_rfl) (by kernel_rfl) (fun _ _ => by kernel_rfl) h
def Sh.ntt_Plan_turned (t : Option Addr) (a : Sl) (R : Value → TW → Prop) (w : TW) : Prop :=
cl Pg F.ntt_Plan_Size [.pointer t] w [.one (.int .i64)] fun (r : Int) w1 =>
mks w1 r r T.uint64 8 [.int .u64 0] fun s w2 =>
Jn [] (fun J0 =>
Lp [.int .i64] (fun (x : Int) w3 C0 =>
cond (decide ((x : Int) < (a.n : Int))) (
ixa a x 1 fun a1 =>
ldc (.int .u64) w3 a1 fun (v : Int) =>
bnd (wu (x)) fun n =>
nck t fun a2 =>
ldc (.int .i64) w3.drew (a2.add 2) fun (v1 : Int) =>
bnd (wi (64 - v1)) fun n1 =>
bnd (wu (n1)) fun n2 =>
nck t fun a3 =>
ldc (.ptr) w3.drew a3 fun (v2 : Option Addr) =>
cl Pg F.bits_Reverse64 [.int .u64 n] w3.drew [.one (.int .u64)] fun (r1 : Int) w4 =>
hld w4 [(a3, .pointer v2), ((a2.add 2), .int .i64 v1)] <|
shrK .u64 r1 n2 fun n3 =>
cl Pg F.modw_Mod_Red [.pointer v2, .int .u64 v] w4 [.one (.int .u64)] fun (r2 : Int) w5 =>
hld w5 [((a2.add 2), .int .i64 v1)] <|
ixa s n3 1 fun a4 =>
stc w5 a4 (.int .u64 r2) fun w6 =>
bnd (wi (x + 1)) fun n4 =>
C0 n4 w6) (
J0 w3)) 0 w2) fun  w7 =>
R (s.v) w7
theorem Ct.ntt_Plan_turned {t : Option Addr} {a : Sl} {w : TW} {X : Nat → Prop} {K : Tel (fl [.one .slice]) (TW → Prop)} (h : Sh.ntt_Plan_turned t a (Rt X [.one .slice] K w) w.here) : Ct Pg F.ntt_Plan_turned [.pointer t, a.v] w X [.one .slice] K :=
 cod (Sh.ntt_Plan_turned t a) 38 [] [] [(2, 0, []), (3, 3, [(13, .one (.int .i64))])] Go.Proofs.Tryz.f230 (by kernel_rfl) (by kernel_rfl) (by kernel_rfl) (fun _ _ => by kernel_rfl) h
def Sh.ntt_Plan_transform (t : Option Addr) (a : Sl) (l : Sl) (s : Sl) (R : Value → TW → Prop) (w : TW) : Prop :=
nck t fun a1 =>
ldc (.ptr) w a1 fun (v : Option Addr) =>
cl Pg F.modw_Mod_P [.pointer v] w [.one (.int .u64)] fun (r : Int) w1 =>
Jn [] (fun J0 =>
Lp [.int .i64] (fun (half : Int) w2 C0 =>
cond (decide ((half : Int) < (a.n : Int))) (
bnd (wi (2 * half)) fun n =>
divK .i64 (a.n : Int) n fun n1 =>
Jn [] (fun J1 =>
Lp [.int .i64] (fun (from0 : Int) w3 C1 =>
cond (decide ((from0 : Int) < (a.n : Int))) (
Jn [] (fun J2 =>
Lp [.int .i64] (fun (j : Int) w4 C2 =>
cond (decide ((j : Int) < half)) (
bnd (wi (from0 + j)) fun n2 =>
ixa a n2 1 fun a2 =>
ldc (.int .u64) w4 a2 fun (v1 : Int) =>
nck t fun a3 =>
ldc (.ptr) w4.drew a3 fun (v2 : Option Addr) =>
bnd (wi (from0 + half)) fun n3 =>
bnd (wi (n3 + j)) fun n4 =>
ixa a n4 1 fun a4 =>
ldc (.int .u64) w4.drew a4 fun (v3 : Int) =>
bnd (wi (j * n1)) fun n5 =>
ixa l n5 1 fun a5 =>
ldc (.int .u64) w4.drew a5 fun (v4 : Int) =>
bnd (wi (j * n1)) fun n6 =>
ixa s n6 1 fun a6 =>
ldc (.int .u64) w4.drew a6 fun (v5 : Int) =>
cl Pg F.modw_Mod_ShoupMul [.pointer v2, .int .u64 v3, .int .u64 v4, .int .u64 v5] w4.drew [.one (.int .u64)] fun (r1 : Int) w5 =>
bnd (wu (v1 + r1)) fun n7 =>
Jn [.int .u64] (fun J3 =>
cond (decide ((n7 : Int) ≥ r)) (
bnd (wu (n7 - r)) fun n8 =>
J3 n8 w5) (
J3 n7 w5)) fun (sum : Int) w6 =>
bnd (wi (from0 + j)) fun n9 =>
ixa a n9 1 fun a7 =>
stc w6 a7 (.int .u64 sum) fun w7 =>
Jn [.int .u64] (fun J4 =>
cond (decide ((v1 : Int) < r1)) (
bnd (wu (v1 + r)) fun n10 =>
J4 n10 w7) (
J4 v1 w7)) fun (x : Int) w8 =>
bnd (wi (from0 + half)) fun n11 =>
bnd (wi (n11 + j)) fun n12 =>
bnd (wu (x - r1)) fun n13 =>
ixa a n12 1 fun a8 =>
stc w8 a8 (.int .u64 n13) fun w9 =>
bnd (wi (j + 1)) fun n14 =>
C2 n14 w9) (
J2 w4)) 0 w3) fun  w10 =>
bnd (wi (2 * half)) fun n15 =>
bnd (wi (from0 + n15)) fun n16 =>
C1 n16 w10) (
J1 w3)) 0 w2) fun  w11 =>
bnd (wi (2 * half)) fun n17 =>
C0 n17 w11) (
J0 w2)) 1 w1) fun  w12 =>
nck t fun a9 =>
ldc (.ptr) w12.drew (a9.add 1) fun (v6 : Option Addr) =>
divK .i64 (a.n : Int) 2 fun n18 =>
nck t fun a10 =>
ldc (.int .i64) w12.drew (a10.add 2) fun (v7 : Int) =>
bnd (wi (n18 * v7)) fun n19 =>
cl Pg F.meter_Meter_Spend [.pointer v6, .int .i64 n19] w12.drew [.one (.int .i64)] fun (_ : Int) w13 =>
hld w13 [((a10.add 2), .int .i64 v7)] <|
R (.tuple #[]) w13
theorem Ct.ntt_Plan_transform {t : Option Addr} {a : Sl} {l : Sl} {s : Sl} {w : TW} {X : Nat → Prop} {K : Tel (fl []) (TW → Prop)} (h : Sh.ntt_Plan_transform t a l s (Rt X [] K w) w.here) : Ct Pg F.ntt_Plan_transform [.pointer t, a.v, l.v, s.v] w X [] K :=
 cod (Sh.ntt_Plan_transform t a l s) 120 [] [] [(2, 0, []), (3, 2, [(9, .one (.int .i64))]), (2, 2, []), (3, 6, [(11, .one (.int .i64))]), (2, 4, []), (3, 9, [(12, .one (.int .i64))]), (1, 15, [(15, .one (.int .u64))]), (1, 18, [(13, .one (.int .u64))])] Go.Proofs.Tryz.f231 (by kernel_rfl) (by kernel_rfl) (by kernel_rfl) (fun _ _ => by kernel_rfl) h
end Go.Proofs.YticehedkalheiaaGreatDoor.Zg
end

section
set_option maxRecDepth 100000
namespace Go.Proofs.YticehedkalheiaaGreatDoor.Zg
def Sh.num_Of (n : Int) (R : Value → TW → Prop) (w : TW) : Prop :=
nwv w fun w1 =>
cond (decide ((n : Int) < 0)) (
bnd (wu (n)) fun n1 =>
bnd (wu (0 - n1)) fun n2 =>
cl Pg F.limb_One [.int .u64 n2] w1 [.one .slice] fun (s : Sl) w2 =>
cl Pg F.num_made [s.v, .bool true] w2 [.agg [.slice, .bool]] fun (r : Sl) (r1 : Bool) w3 =>
nwv w3 fun w4 =>
R (.agg #[r.v, .bool r1]) w4) (
bnd (wu (n)) fun n3 =>
cl Pg F.limb_One [.int .u64 n3] w1 [.one .slice] fun (s1 : Sl) w5 =>
cl Pg F.num_made [s1.v, .bool false] w5 [.agg [.slice, .bool]] fun (r2 : Sl) (r3 : Bool) w6 =>
nwv w6 fun w7 =>
R (.agg #[r2.v, .bool r3]) w7)
theorem Ct.num_Of {n : Int} {w : TW} {X : Nat → Prop} {K : Tel (fl [.agg [.slice, .bool]]) (TW → Prop)} (h : Sh.num_Of n (Rt X [.agg [.slice, .bool]] K w) w.here) : Ct Pg F.num_Of [.int .i64 n] w X [.agg [.slice, .bool]] K :=
 cod (Sh.num_Of n) 14 [(2, 14)] [(14, 2)] [] Go.Proofs.Tryz.f100 (by kernel_rfl) (by kernel_rfl) (by kernel_rfl) (fun _ _ => by kernel_rfl) h
def Sh.num_made (size : Sl) (neg : Bool) (R : Value → TW → Prop) (w : TW) : Prop :=
nwv w fun w1 =>
Jn [.slice, .bool] (fun J0 =>
cond neg (
cl Pg F.api_Nat_Zero [size.v] w1 [.one .bool] fun (ok : Bool) w2 =>
nwv w2 fun w3 =>
J0 size (!ok) w3) (
nwv w1 fun w4 =>
J0 size false w4)) fun (x : Sl) (x1 : Bool) w5 =>
R (.agg #[x.v, .bool x1]) w5
theorem Ct.num_made {size : Sl} {neg : Bool} {w : TW} {X : Nat → Prop} {K : Tel (fl [.agg [.slice, .bool]]) (TW → Prop)} (h : Sh.num_made size neg (Rt X [.agg [.slice, .bool]] K w) w.here) : Ct Pg F.num_made [size.v, .bool neg] w X [.agg [.slice, .bool]] K :=
 cod (Sh.num_made size neg) 13 [(4, 13)] [(13, 2)] [(0, 1, [(13, .one .slice), (14, .one .bool)])] Go.Proofs.Tryz.f136 (by kernel_rfl) (by kernel_rfl) (by kernel_rfl) (fun _ _ => by kernel_rfl) h
def Sh.num_New (t : HL [.int .i64, .int .i64, .int .i64, .int .i64, .int .i64, .int .i64, .int .i64, .int .i64, .int .i64, .int .i64, .int .i64]) (R : Value → TW → Prop) (w : TW) : Prop :=
nwv w fun w1 =>
cl Pg F.radix_New [.agg #[.int .i64 t.1, .int .i64 t.2.1, .int .i64 t.2.2.1, .int .i64 t.2.2.2.1, .int .i64 t.2.2.2.2.1, .int .i64 t.2.2.2.2.2.1, .int .i64 t.2.2.2.2.2.2.1, .int .i64 t.2.2.2.2.2.2.2.1, .int .i64 t.2.2.2.2.2.2.2.2.1, .int .i64 t.2.2.2.2.2.2.2.2.2.1, .int .i64 t.2.2.2.2.2.2.2.2.2.2.1]] w1 [.one .ptr] fun (p : Option Addr) w2 =>
nwb w2 [.pointer p] T.num_Engine fun b w3 =>
R (.pointer (some ⟨b, 0, none⟩)) w3
theorem Ct.num_New {t : HL [.int .i64, .int .i64, .int .i64, .int .i64, .int .i64, .int .i64, .int .i64, .int .i64, .int .i64, .int .i64, .int .i64]} {w : TW} {X : Nat → Prop} {K : Tel (fl [.one .ptr]) (TW → Prop)} (h : Sh.num_New t (Rt X [.one .ptr] K w) w.here) : Ct Pg F.num_New [.agg (encs [.int .i64, .int .i64, .int .i64, .int .i64, .int .i64, .int .i64, .int .i64, .int .i64, .int .i64, .int .i64, .int .i64] t).toArray] w X [.one .ptr] K :=
 cod (Sh.num_New t) 7 [(1, 7)] [(7, 11)] [] Go.Proofs.Tryz.f139 (by kernel_rfl) (by kernel_rfl) (by kernel_rfl) (fun _ _ => by kernel_rfl) h
end Go.Proofs.YticehedkalheiaaGreatDoor.Zg
end

section
set_option maxRecDepth 100000
namespace Go.Proofs.YticehedkalheiaaGreatDoor.Zg
def Sh.power_New (t : HL [.int .i64, .int .i64, .int .i64, .int .i64, .int .i64, .int .i64, .int .i64, .int .i64, .int .i64, .int .i64, .int .i64]) (R : Value → TW → Prop) (w : TW) : Prop :=
nwv w fun w1 =>
cl Pg F.num_New [.agg #[.int .i64 t.1, .int .i64 t.2.1, .int .i64 t.2.2.1, .int .i64 t.2.2.2.1, .int .i64 t.2.2.2.2.1, .int .i64 t.2.2.2.2.2.1, .int .i64 t.2.2.2.2.2.2.1, .int .i64 t.2.2.2.2.2.2.2.1, .int .i64 t.2.2.2.2.2.2.2.2.1, .int .i64 t.2.2.2.2.2.2.2.2.2.1, .int .i64 t.2.2.2.2.2.2.2.2.2.2.1]] w1 [.one .ptr] fun (p : Option Addr) w2 =>
nwb w2 [.pointer p] T.power_Engine fun b w3 =>
R (.pointer (some ⟨b, 0, none⟩)) w3
theorem Ct.power_New {t : HL [.int .i64, .int .i64, .int .i64, .int .i64, .int .i64, .int .i64, .int .i64, .int .i64, .int .i64, .int .i64, .int .i64]} {w : TW} {X : Nat → Prop} {K : Tel (fl [.one .ptr]) (TW → Prop)} (h : Sh.power_New t (Rt X [.one .ptr] K w) w.here) : Ct Pg F.power_New [.agg (encs [.int .i64, .int .i64, .int .i64, .int .i64, .int .i64, .int .i64, .int .i64, .int .i64, .int .i64, .int .i64, .int .i64] t).toArray] w X [.one .ptr] K :=
 cod (Sh.power_New t) 7 [(1, 7)] [(7, 11)] [] Go.Proofs.Tryz.f109 (by kernel_rfl) (by kernel_rfl) (by kernel_rfl) (fun _ _ => by kernel_rfl) h
end Go.Proofs.YticehedkalheiaaGreatDoor.Zg
end

section
set_option maxRecDepth 100000
namespace Go.Proofs.YticehedkalheiaaGreatDoor.Zg
def Sh.prime_Three (R : Value → TW → Prop) (w : TW) : Prop :=
nwv w fun w1 =>
nwv w1 fun w2 =>
R (.agg #[.int .u64 180143985094819841, .int .i64 55, .int .u64 6, .int .u64 1945555039024054273, .int .i64 56, .int .u64 5, .int .u64 4179340454199820289, .int .i64 57, .int .u64 3]) w2
theorem Ct.prime_Three {w : TW} {X : Nat → Prop} {K : Tel (fl [.agg [.int .u64, .int .i64, .int .u64, .int .u64, .int .i64, .int .u64, .int .u64, .int .i64, .int .u64]]) (TW → Prop)} (h : Sh.prime_Three (Rt X [.agg [.int .u64, .int .i64, .int .u64, .int .u64, .int .i64, .int .u64, .int .u64, .int .i64, .int .u64]] K w) w.here) : Ct Pg F.prime_Three [] w X [.agg [.int .u64, .int .i64, .int .u64, .int .u64, .int .i64, .int .u64, .int .u64, .int .i64, .int .u64]] K :=
 cod Sh.prime_Three 5 [(0, 5)] [(5, 9)] [] Go.Proofs.Tryz.f213 (by kernel_rfl) (by kernel_rfl) (by kernel_rfl) (fun _ _ => by kernel_rfl) h
def Sh.prime_Root (p : Int) (log : Int) (R : Value → TW → Prop) (w : TW) : Prop :=
cl Pg F.prime_Mod [.int .u64 p] w [.one .ptr, .one (.int .i64)] fun (p1 : Option Addr) (r : Int) w1 =>
cond ((r : Int) != 0) (
R (.tuple #[.int .u64 0, .int .i64 r]) w1) (
Jn [.bool] (fun J0 =>
cond (decide ((log : Int) < 0)) (
J0 true w1) (
cond (decide ((log : Int) > 20)) (
J0 true w1) (
bnd (wu (p - 1)) fun n =>
bnd (wu (log)) fun n1 =>
shlK .u64 1 n1 fun n2 =>
remK n n2 fun n3 =>
J0 ((n3 : Int) != 0) w1))) fun (x : Bool) w2 =>
cond x (
R (.tuple #[.int .u64 0, .int .i64 1]) w2) (
cond ((log : Int) == 0) (
R (.tuple #[.int .u64 1, .int .i64 0]) w2) (
Jn [.int .u64] (fun J1 =>
Lp [.int .u64] (fun (x1 : Int) w3 C0 =>
bnd (wu (p - 1)) fun n4 =>
divK .u64 n4 2 fun n5 =>
cl Pg F.modw_Mod_Pow [.pointer p1, .int .u64 x1, .int .u64 n5] w3 [.one (.int .u64)] fun (r1 : Int) w4 =>
bnd (wu (p - 1)) fun n6 =>
cond ((r1 : Int) != n6) (
bnd (wu (x1 + 1)) fun n7 =>
C0 n7 w4) (
J1 x1 w4)) 2 w2) fun (x2 : Int) w5 =>
bnd (wu (p - 1)) fun n8 =>
bnd (wu (log)) fun n9 =>
shrK .u64 n8 n9 fun n10 =>
cl Pg F.modw_Mod_Pow [.pointer p1, .int .u64 x2, .int .u64 n10] w5 [.one (.int .u64)] fun (r2 : Int) w6 =>
R (.tuple #[.int .u64 r2, .int .i64 0]) w6)))
theorem Ct.prime_Root {p : Int} {log : Int} {w : TW} {X : Nat → Prop} {K : Tel (fl [.one (.int .u64), .one (.int .i64)]) (TW → Prop)} (h : Sh.prime_Root p log (Rt X [.one (.int .u64), .one (.int .i64)] K w) w.here) : Ct Pg F.prime_Root [.int .u64 p, .int .i64 log] w X [.one (.int .u64), .one (.int .i64)] K :=
 cod (Sh.prime_Root p log) 53 [] [] [(0, 4, [(31, .one .bool)]), (2, 0, [(8, .one (.int .u64))]), (3, 9, [(8, .one (.int .u64))])] Go.Proofs.Tryz.f217 (by kernel_rfl) (by kernel_rfl) (by kernel_rfl) (fun _ _ => by kernel_rfl) h
def Sh.prime_Mod (p : Int) (R : Value → TW → Prop) (w : TW) : Prop :=
Jn [.bool] (fun J0 =>
remK p 2 fun n =>
cond ((n : Int) == 0) (
J0 true w) (
cond (decide ((p : Int) ≥ 4611686018427387904)) (
J0 true w) (
cl Pg F.prime_Is [.int .u64 p] w [.one .bool] fun (ok : Bool) w1 =>
J0 (!ok) w1))) fun (x : Bool) w2 =>
cond x (
R (.tuple #[.pointer none, .int .i64 3]) w2) (
cl Pg F.modw_New [.int .u64 p] w2 [.one .ptr, .one (.int .i64)] fun (p1 : Option Addr) (r : Int) w3 =>
R (.tuple #[.pointer p1, .int .i64 r]) w3)
theorem Ct.prime_Mod {p : Int} {w : TW} {X : Nat → Prop} {K : Tel (fl [.one .ptr, .one (.int .i64)]) (TW → Prop)} (h : Sh.prime_Mod p (Rt X [.one .ptr, .one (.int .i64)] K w) w.here) : Ct Pg F.prime_Mod [.int .u64 p] w X [.one .ptr, .one (.int .i64)] K :=
 cod (Sh.prime_Mod p) 20 [] [] [(0, 1, [(15, .one .bool)])] Go.Proofs.Tryz.f226 (by kernel_rfl) (by kernel_rfl) (by kernel_rfl) (fun _ _ => by kernel_rfl) h
def Sh.prime_Is (n : Int) (R : Value → TW → Prop) (w : TW) : Prop :=
cond (decide ((n : Int) < 2)) (
R (.bool false) w) (
nwv w fun w1 =>
nwv w1 fun w2 =>
Jn [.int .u64, .int .u64, .int .u64, .int .u64, .int .u64, .int .u64, .int .u64, .int .u64, .int .u64, .int .u64, .int .u64, .int .u64] (fun J0 =>
Lp [.int .i64, .int .u64, .int .u64, .int .u64, .int .u64, .int .u64, .int .u64, .int .u64, .int .u64, .int .u64, .int .u64, .int .u64, .int .u64] (fun (x : Int) (small : Int) (small1 : Int) (small2 : Int) (small3 : Int) (small4 : Int) (small5 : Int) (small6 : Int) (small7 : Int) (small8 : Int) (small9 : Int) (small10 : Int) (small11 : Int) w3 C0 =>
cond (decide ((x : Int) < 12)) (
inr x 12 (ixq (.int .u64) [.int .u64 2, .int .u64 3, .int .u64 5, .int .u64 7, .int .u64 11, .int .u64 13, .int .u64 17, .int .u64 19, .int .u64 23, .int .u64 29, .int .u64 31, .int .u64 37] (Int.toNat x * 1) fun (v : Int) =>
remK n v fun n1 =>
cond ((n1 : Int) == 0) (
R (.bool ((n : Int) == v)) w3) (
bnd (wi (x + 1)) fun n2 =>
C0 n2 small small1 small2 small3 small4 small5 small6 small7 small8 small9 small10 small11 w3))) (
J0 small small1 small2 small3 small4 small5 small6 small7 small8 small9 small10 small11 w3)) 0 2 3 5 7 11 13 17 19 23 29 31 37 w2) fun (small12 : Int) (small13 : Int) (small14 : Int) (small15 : Int) (small16 : Int) (small17 : Int) (small18 : Int) (small19 : Int) (small20 : Int) (small21 : Int) (small22 : Int) (small23 : Int) w4 =>
bnd (wu (n - 1)) fun n3 =>
cl Pg F.bits_TrailingZeros64 [.int .u64 n3] w4 [.one (.int .i64)] fun (r : Int) w5 =>
bnd (wu (n - 1)) fun n4 =>
bnd (wu (r)) fun n5 =>
shrK .u64 n4 n5 fun n6 =>
Jn [] (fun J1 =>
Lp [.int .i64] (fun (x1 : Int) w6 C1 =>
cond (decide ((x1 : Int) < 12)) (
inr x1 12 (ixq (.int .u64) [.int .u64 small12, .int .u64 small13, .int .u64 small14, .int .u64 small15, .int .u64 small16, .int .u64 small17, .int .u64 small18, .int .u64 small19, .int .u64 small20, .int .u64 small21, .int .u64 small22, .int .u64 small23] (Int.toNat x1 * 1) fun (v1 : Int) =>
cl Pg F.prime_witness [.int .u64 v1, .int .u64 n, .int .u64 n6, .int .i64 r] w6 [.one .bool] fun (ok : Bool) w7 =>
cond ok (
R (.bool false) w7) (
bnd (wi (x1 + 1)) fun n7 =>
C1 n7 w7))) (
J1 w6)) 0 w5) fun  w8 =>
R (.bool true) w8)
theorem Ct.prime_Is {n : Int} {w : TW} {X : Nat → Prop} {K : Tel (fl [.one .bool]) (TW → Prop)} (h : Sh.prime_Is n (Rt X [.one .bool] K w) w.here) : Ct Pg F.prime_Is [.int .u64 n] w X [.one .bool] K :=
 cod (Sh.prime_Is n) 43 [(3, 43)] [(43, 12)] [(2, 0, [(43, .one (.int .u64)), (44, .one (.int .u64)), (45, .one (.int .u64)), (46, .one (.int .u64)), (47, .one (.int .u64)), (48, .one (.int .u64)), (49, .one (.int .u64)), (50, .one (.int .u64)), (51, .one (.int .u64)), (52, .one (.int .u64)), (53, .one (.int .u64)), (54, .one (.int .u64))]), (3, 5, [(14, .one (.int .i64)), (43, .one (.int .u64)), (44, .one (.int .u64)), (45, .one (.int .u64)), (46, .one (.int .u64)), (47, .one (.int .u64)), (48, .one (.int .u64)), (49, .one (.int .u64)), (50, .one (.int .u64)), (51, .one (.int .u64)), (52, .one (.int .u64)), (53, .one (.int .u64)), (54, .one (.int .u64))]), (2, 2, []), (3, 13, [(34, .one (.int .i64))])] Go.Proofs.Tryz.f233 (by kernel_rfl) (by kernel_rfl) (by kernel_rfl) (fun _ _ => by kernel_rfl) h
def Sh.prime_witness (a : Int) (n : Int) (d : Int) (s : Int) (R : Value → TW → Prop) (w : TW) : Prop :=
remK a n fun n1 =>
cl Pg F.prime_pow [.int .u64 n1, .int .u64 d, .int .u64 n] w [.one (.int .u64)] fun (r : Int) w1 =>
Jn [.bool] (fun J0 =>
cond ((r : Int) == 0) (
J0 true w1) (
cond ((r : Int) == 1) (
J0 true w1) (
bnd (wu (n - 1)) fun n2 =>
J0 ((r : Int) == n2) w1))) fun (x : Bool) w2 =>
cond x (
R (.bool false) w2) (
bnd (wi (s - 1)) fun n3 =>
Jn [] (fun J1 =>
Lp [.int .u64, .int .i64] (fun (x1 : Int) (x2 : Int) w3 C0 =>
cond (decide ((x2 : Int) < n3)) (
cl Pg F.prime_mul [.int .u64 x1, .int .u64 x1, .int .u64 n] w3 [.one (.int .u64)] fun (r1 : Int) w4 =>
bnd (wu (n - 1)) fun n4 =>
cond ((r1 : Int) == n4) (
R (.bool false) w4) (
bnd (wi (x2 + 1)) fun n5 =>
C0 r1 n5 w4)) (
J1 w3)) r 0 w2) fun  w5 =>
R (.bool true) w5)
theorem Ct.prime_witness {a : Int} {n : Int} {d : Int} {s : Int} {w : TW} {X : Nat → Prop} {K : Tel (fl [.one .bool]) (TW → Prop)} (h : Sh.prime_witness a n d s (Rt X [.one .bool] K w) w.here) : Ct Pg F.prime_witness [.int .u64 a, .int .u64 n, .int .u64 d, .int .i64 s] w X [.one .bool] K :=
 cod (Sh.prime_witness a n d s) 41 [] [] [(0, 2, [(27, .one .bool)]), (2, 0, []), (3, 5, [(9, .one (.int .u64)), (30, .one (.int .i64))])] Go.Proofs.Tryz.f241 (by kernel_rfl) (by kernel_rfl) (by kernel_rfl) (fun _ _ => by kernel_rfl) h
def Sh.prime_pow (a : Int) (k : Int) (n : Int) (R : Value → TW → Prop) (w : TW) : Prop :=
remK 1 n fun n1 =>
Jn [.int .u64] (fun J0 =>
Lp [.int .u64, .int .u64, .int .u64] (fun (a1 : Int) (k1 : Int) (out : Int) w1 C0 =>
cond (decide ((k1 : Int) > 0)) (
remK k1 2 fun n2 =>
Jn [.int .u64] (fun J1 =>
cond ((n2 : Int) == 1) (
cl Pg F.prime_mul [.int .u64 out, .int .u64 a1, .int .u64 n] w1 [.one (.int .u64)] fun (r : Int) w2 =>
J1 r w2) (
J1 out w1)) fun (out1 : Int) w3 =>
cl Pg F.prime_mul [.int .u64 a1, .int .u64 a1, .int .u64 n] w3 [.one (.int .u64)] fun (r1 : Int) w4 =>
divK .u64 k1 2 fun n3 =>
C0 r1 n3 out1 w4) (
J0 out w1)) a k n1 w) fun (out2 : Int) w5 =>
R (.int .u64 out2) w5
theorem Ct.prime_pow {a : Int} {k : Int} {n : Int} {w : TW} {X : Nat → Prop} {K : Tel (fl [.one (.int .u64)]) (TW → Prop)} (h : Sh.prime_pow a k n (Rt X [.one (.int .u64)] K w) w.here) : Ct Pg F.prime_pow [.int .u64 a, .int .u64 k, .int .u64 n] w X [.one (.int .u64)] K :=
 cod (Sh.prime_pow a k n) 26 [] [] [(2, 0, [(7, .one (.int .u64))]), (3, 2, [(0, .one (.int .u64)), (1, .one (.int .u64)), (7, .one (.int .u64))]), (1, 4, [(7, .one (.int .u64))])] Go.Proofs.Tryz.f244 (by kernel_rfl) (by kernel_rfl) (by kernel_rfl) (fun _ _ => by kernel_rfl) h
def Sh.prime_mul (a : Int) (b : Int) (n : Int) (R : Value → TW → Prop) (w : TW) : Prop :=
cl Pg F.bits_Mul64 [.int .u64 a, .int .u64 b] w [.one (.int .u64), .one (.int .u64)] fun (r : Int) (r1 : Int) w1 =>
cl Pg F.bits_Div64 [.int .u64 r, .int .u64 r1, .int .u64 n] w1 [.one (.int .u64), .one (.int .u64)] fun (_ : Int) (r3 : Int) w2 =>
R (.int .u64 r3) w2
theorem Ct.prime_mul {a : Int} {b : Int} {n : Int} {w : TW} {X : Nat → Prop} {K : Tel (fl [.one (.int .u64)]) (TW → Prop)} (h : Sh.prime_mul a b n (Rt X [.one (.int .u64)] K w) w.here) : Ct Pg F.prime_mul [.int .u64 a, .int .u64 b, .int .u64 n] w X [.one (.int .u64)] K :=
 cod (Sh.prime_mul a b n) 25 [] [] [] Go.Proofs.Tryz.f245 (by kernel_rfl) (by kernel_rfl) (by kernel_rfl) (fun _ _ => by kernel_rfl) h
end Go.Proofs.YticehedkalheiaaGreatDoor.Zg
end

section
set_option maxRecDepth 100000
namespace Go.Proofs.YticehedkalheiaaGreatDoor.Zg
def Sh.radix_New (t : HL [.int .i64, .int .i64, .int .i64, .int .i64, .int .i64, .int .i64, .int .i64, .int .i64, .int .i64, .int .i64, .int .i64]) (R : Value → TW → Prop) (w : TW) : Prop :=
nwv w fun w1 =>
cl Pg F.root_New [.agg #[.int .i64 t.1, .int .i64 t.2.1, .int .i64 t.2.2.1, .int .i64 t.2.2.2.1, .int .i64 t.2.2.2.2.1, .int .i64 t.2.2.2.2.2.1, .int .i64 t.2.2.2.2.2.2.1, .int .i64 t.2.2.2.2.2.2.2.1, .int .i64 t.2.2.2.2.2.2.2.2.1, .int .i64 t.2.2.2.2.2.2.2.2.2.1, .int .i64 t.2.2.2.2.2.2.2.2.2.2.1]] w1 [.one .ptr] fun (p : Option Addr) w2 =>
nwb w2 [.pointer p] T.radix_Engine fun b w3 =>
R (.pointer (some ⟨b, 0, none⟩)) w3
theorem Ct.radix_New {t : HL [.int .i64, .int .i64, .int .i64, .int .i64, .int .i64, .int .i64, .int .i64, .int .i64, .int .i64, .int .i64, .int .i64]} {w : TW} {X : Nat → Prop} {K : Tel (fl [.one .ptr]) (TW → Prop)} (h : Sh.radix_New t (Rt X [.one .ptr] K w) w.here) : Ct Pg F.radix_New [.agg (encs [.int .i64, .int .i64, .int .i64, .int .i64, .int .i64, .int .i64, .int .i64, .int .i64, .int .i64, .int .i64, .int .i64] t).toArray] w X [.one .ptr] K :=
 cod (Sh.radix_New t) 7 [(1, 7)] [(7, 11)] [] Go.Proofs.Tryz.f162 (by kernel_rfl) (by kernel_rfl) (by kernel_rfl) (fun _ _ => by kernel_rfl) h
end Go.Proofs.YticehedkalheiaaGreatDoor.Zg
end

section
set_option maxRecDepth 100000
namespace Go.Proofs.YticehedkalheiaaGreatDoor.Zg
def Sh.recip_Engine_Recip (e0 : Option Addr) (d : Sl) (n : Int) (R : Value → TW → Prop) (w : TW) : Prop :=
cl Pg F.api_Nat_Zero [d.v] w [.one .bool] fun (ok : Bool) w1 =>
cond ok (
R (.tuple #[.slice none 0 0, .int .i64 2]) w1) (
Jn [.bool] (fun J0 =>
cond (decide ((n : Int) < 0)) (
J0 true w1) (
J0 (decide ((n : Int) > 1048576)) w1)) fun (x : Bool) w2 =>
cond x (
R (.tuple #[.slice none 0 0, .int .i64 1]) w2) (
cl Pg F.api_Nat_Bits [d.v] w2 [.one (.int .i64)] fun (r : Int) w3 =>
bnd (wi (r - 1)) fun n1 =>
cond (decide ((n : Int) < n1)) (
R (.tuple #[.slice none 0 0, .int .i64 0]) w3) (
cl Pg F.limb_Norm [d.v] w3 [.one .slice] fun (s : Sl) w4 =>
cl Pg F.recip_Engine_newton [.pointer e0, s.v, .int .i64 n] w4 [.one .slice] fun (s1 : Sl) w5 =>
R (.tuple #[s1.v, .int .i64 0]) w5)))
theorem Ct.recip_Engine_Recip {e0 : Option Addr} {d : Sl} {n : Int} {w : TW} {X : Nat → Prop} {K : Tel (fl [.one .slice, .one (.int .i64)]) (TW → Prop)} (h : Sh.recip_Engine_Recip e0 d n (Rt X [.one .slice, .one (.int .i64)] K w) w.here) : Ct Pg F.recip_Engine_Recip [.pointer e0, d.v, .int .i64 n] w X [.one .slice, .one (.int .i64)] K :=
 cod (Sh.recip_Engine_Recip e0 d n) 26 [] [] [(0, 3, [(15, .one .bool)])] Go.Proofs.Tryz.f158 (by kernel_rfl) (by kernel_rfl) (by kernel_rfl) (fun _ _ => by kernel_rfl) h
def Sh.recip_Engine_newton (e0 : Option Addr) (d : Sl) (n : Int) (R : Value → TW → Prop) (w : TW) : Prop :=
cl Pg F.api_Nat_Bits [d.v] w [.one (.int .i64)] fun (r : Int) w1 =>
bnd (wi (n - r)) fun n1 =>
bnd (wi (n1 + 1)) fun n2 =>
Jn [.bool] (fun J0 =>
nck e0 fun a =>
ldc (.ptr) w1 a fun (v : Option Addr) =>
nck v fun a1 =>
ldc (.ptr) w1 a1 fun (v1 : Option Addr) =>
nck v1 fun a2 =>
ldc (.ptr) w1 a2 fun (v2 : Option Addr) =>
nck v2 fun a3 =>
ldc (.ptr) w1 a3 fun (v3 : Option Addr) =>
nck v3 fun a4 =>
ldc (.ptr) w1 a4 fun (v4 : Option Addr) =>
nck v4 fun a5 =>
ldc (.ptr) w1 a5 fun (v5 : Option Addr) =>
nck v5 fun a6 =>
ldc (.int .i64) w1 ((a6.add 3).add 4) fun (v6 : Int) =>
cond (decide (((d.n : Int) : Int) < v6)) (
J0 true w1) (
J0 (decide ((n2 : Int) ≤ 64)) w1)) fun (x : Bool) w2 =>
cond x (
nck e0 fun a7 =>
ldc (.ptr) w2.drew a7 fun (v7 : Option Addr) =>
cl Pg F.recip_power [.int .i64 n] w2.drew [.one .slice] fun (s : Sl) w3 =>
hld w3 [(a7, .pointer v7)] <|
cl Pg F.divs_Engine_Long [.pointer v7, s.v, d.v] w3 [.one .slice, .one .slice, .one (.int .i64)] fun (s1 : Sl) (_ : Sl) (_ : Int) w4 =>
R (s1.v) w4) (
nck e0 fun a8 =>
ldc (.ptr) w2 a8 fun (v8 : Option Addr) =>
nck v8 fun a9 =>
ldc (.ptr) w2 a9 fun (v9 : Option Addr) =>
nck v9 fun a10 =>
ldc (.ptr) w2 a10 fun (v10 : Option Addr) =>
nck v10 fun a11 =>
ldc (.ptr) w2 a11 fun (v11 : Option Addr) =>
nck v11 fun a12 =>
ldc (.ptr) w2 a12 fun (v12 : Option Addr) =>
nck v12 fun a13 =>
ldc (.ptr) w2 a13 fun (v13 : Option Addr) =>
nck v13 fun a14 =>
cl Pg F.meter_Meter_Enter [.pointer (some a14)] w2 [.one (.int .i64)] fun (_ : Int) w5 =>
divK .i64 n2 2 fun n3 =>
bnd (wi (n3 + 4)) fun n4 =>
cl Pg F.api_Nat_Bits [d.v] w5 [.one (.int .i64)] fun (r3 : Int) w6 =>
bnd (wi (r3 - n4)) fun n5 =>
bnd (wi (n5 - 4)) fun n6 =>
bnd (if (n6 : Int) > 0 then n6 else 0) fun n7 =>
cl Pg F.limb_Shr [d.v, .int .i64 n7] w6 [.one .slice] fun (s3 : Sl) w7 =>
cl Pg F.api_Nat_Bits [s3.v] w7 [.one (.int .i64)] fun (r4 : Int) w8 =>
bnd (wi (r4 - 1)) fun n8 =>
bnd (wi (n8 + n4)) fun n9 =>
cl Pg F.recip_Engine_newton [.pointer e0, s3.v, .int .i64 n9] w8 [.one .slice] fun (s4 : Sl) w9 =>
bnd (wi (n - n9)) fun n10 =>
bnd (wi (n10 - n7)) fun n11 =>
bnd (if (n11 : Int) > 0 then n11 else 0) fun n12 =>
cl Pg F.limb_Shl [s4.v, .int .i64 n12] w9 [.one .slice] fun (s5 : Sl) w10 =>
bnd (wi (n9 + n7)) fun n13 =>
bnd (wi (n13 - n)) fun n14 =>
bnd (if (n14 : Int) > 0 then n14 else 0) fun n15 =>
cl Pg F.limb_Shr [s5.v, .int .i64 n15] w10 [.one .slice] fun (s6 : Sl) w11 =>
cl Pg F.recip_Engine_step [.pointer e0, d.v, s6.v, .int .i64 n] w11 [.one .slice] fun (s7 : Sl) w12 =>
nck e0 fun a15 =>
ldc (.ptr) w12 a15 fun (v14 : Option Addr) =>
nck v14 fun a16 =>
ldc (.ptr) w12 a16 fun (v15 : Option Addr) =>
nck v15 fun a17 =>
ldc (.ptr) w12 a17 fun (v16 : Option Addr) =>
nck v16 fun a18 =>
ldc (.ptr) w12 a18 fun (v17 : Option Addr) =>
nck v17 fun a19 =>
ldc (.ptr) w12 a19 fun (v18 : Option Addr) =>
nck v18 fun a20 =>
ldc (.ptr) w12 a20 fun (v19 : Option Addr) =>
nck v19 fun a21 =>
cl Pg F.meter_Meter_Leave [.pointer (some a21)] w12 [.one (.int .i64)] fun (_ : Int) w13 =>
cl Pg F.recip_Engine_right [.pointer e0, d.v, s7.v, .int .i64 n] w13 [.one .slice] fun (s8 : Sl) w14 =>
R (s8.v) w14)
theorem Ct.recip_Engine_newton {e0 : Option Addr} {d : Sl} {n : Int} {w : TW} {X : Nat → Prop} {K : Tel (fl [.one .slice]) (TW → Prop)} (h : Sh.recip_Engine_newton e0 d n (Rt X [.one .slice] K w) w.here) : Ct Pg F.recip_Engine_newton [.pointer e0, d.v, .int .i64 n] w X [.one .slice] K :=
 cod (Sh.recip_Engine_newton e0 d n) 155 [] [] [(0, 2, [(50, .one .bool)])] Go.Proofs.Tryz.f173 (by kernel_rfl) (by kernel_rfl) (by kernel_rfl) (fun _ _ => by kernel_rfl) h
def Sh.recip_power (n : Int) (R : Value → TW → Prop) (w : TW) : Prop :=
cl Pg F.limb_One [.int .u64 1] w [.one .slice] fun (s : Sl) w1 =>
cl Pg F.limb_Shl [s.v, .int .i64 n] w1 [.one .slice] fun (s1 : Sl) w2 =>
R (s1.v) w2
theorem Ct.recip_power {n : Int} {w : TW} {X : Nat → Prop} {K : Tel (fl [.one .slice]) (TW → Prop)} (h : Sh.recip_power n (Rt X [.one .slice] K w) w.here) : Ct Pg F.recip_power [.int .i64 n] w X [.one .slice] K :=
 cod (Sh.recip_power n) 6 [] [] [] Go.Proofs.Tryz.f190 (by kernel_rfl) (by kernel_rfl) (by kernel_rfl) (fun _ _ => by kernel_rfl) h
def Sh.recip_Engine_step (e0 : Option Addr) (d : Sl) (x : Sl) (n : Int) (R : Value → TW → Prop) (w : TW) : Prop :=
nck e0 fun a =>
ldc (.ptr) w a fun (v : Option Addr) =>
nck v fun a1 =>
ldc (.ptr) w a1 fun (v1 : Option Addr) =>
cl Pg F.mul_Engine_Mul [.pointer v1, d.v, x.v] w [.one .slice] fun (s : Sl) w1 =>
cl Pg F.recip_power [.int .i64 n] w1 [.one .slice] fun (s1 : Sl) w2 =>
cl Pg F.limb_Sub [s1.v, s.v] w2 [.one .slice, .one .bool] fun (s2 : Sl) (ok : Bool) w3 =>
cond ok (
nck e0 fun a2 =>
ldc (.ptr) w3 a2 fun (v2 : Option Addr) =>
nck v2 fun a3 =>
ldc (.ptr) w3 a3 fun (v3 : Option Addr) =>
cl Pg F.mul_Engine_Mul [.pointer v3, x.v, s2.v] w3 [.one .slice] fun (s3 : Sl) w4 =>
cl Pg F.limb_Shr [s3.v, .int .i64 n] w4 [.one .slice] fun (s4 : Sl) w5 =>
cl Pg F.limb_Add [x.v, s4.v] w5 [.one .slice] fun (s5 : Sl) w6 =>
R (s5.v) w6) (
cl Pg F.limb_Sub [s.v, s1.v] w3 [.one .slice, .one .bool] fun (s6 : Sl) (_ : Bool) w7 =>
nck e0 fun a4 =>
ldc (.ptr) w7 a4 fun (v4 : Option Addr) =>
nck v4 fun a5 =>
ldc (.ptr) w7 a5 fun (v5 : Option Addr) =>
cl Pg F.mul_Engine_Mul [.pointer v5, x.v, s6.v] w7 [.one .slice] fun (s7 : Sl) w8 =>
cl Pg F.limb_Shr [s7.v, .int .i64 n] w8 [.one .slice] fun (s8 : Sl) w9 =>
cl Pg F.limb_One [.int .u64 1] w9 [.one .slice] fun (s9 : Sl) w10 =>
cl Pg F.limb_Add [s8.v, s9.v] w10 [.one .slice] fun (s10 : Sl) w11 =>
cl Pg F.limb_Sub [x.v, s10.v] w11 [.one .slice, .one .bool] fun (s11 : Sl) (ok2 : Bool) w12 =>
cond (!ok2) (
R (.slice none 0 0) w12) (
R (s11.v) w12))
theorem Ct.recip_Engine_step {e0 : Option Addr} {d : Sl} {x : Sl} {n : Int} {w : TW} {X : Nat → Prop} {K : Tel (fl [.one .slice]) (TW → Prop)} (h : Sh.recip_Engine_step e0 d x n (Rt X [.one .slice] K w) w.here) : Ct Pg F.recip_Engine_step [.pointer e0, d.v, x.v, .int .i64 n] w X [.one .slice] K :=
 cod (Sh.recip_Engine_step e0 d x n) 80 [] [] [] Go.Proofs.Tryz.f191 (by kernel_rfl) (by kernel_rfl) (by kernel_rfl) (fun _ _ => by kernel_rfl) h
def Sh.recip_Engine_right (e0 : Option Addr) (d : Sl) (x : Sl) (n : Int) (R : Value → TW → Prop) (w : TW) : Prop :=
cl Pg F.recip_power [.int .i64 n] w [.one .slice] fun (s : Sl) w1 =>
nck e0 fun a =>
ldc (.ptr) w1 a fun (v : Option Addr) =>
nck v fun a1 =>
ldc (.ptr) w1 a1 fun (v1 : Option Addr) =>
cl Pg F.mul_Engine_Mul [.pointer v1, d.v, x.v] w1 [.one .slice] fun (s1 : Sl) w2 =>
Jn [] (fun J0 =>
Lp [.slice, .slice, .int .i64] (fun (x1 : Sl) (p : Sl) (x2 : Int) w3 C0 =>
cond (decide ((x2 : Int) < 8)) (
Jn [.slice, .slice] (fun J1 =>
cl Pg F.limb_Sub [s.v, p.v] w3 [.one .slice, .one .bool] fun (s2 : Sl) (ok : Bool) w4 =>
cond (!ok) (
cl Pg F.limb_One [.int .u64 1] w4 [.one .slice] fun (s3 : Sl) w5 =>
cl Pg F.limb_Sub [x1.v, s3.v] w5 [.one .slice, .one .bool] fun (s4 : Sl) (_ : Bool) w6 =>
cl Pg F.limb_Sub [p.v, d.v] w6 [.one .slice, .one .bool] fun (s5 : Sl) (_ : Bool) w7 =>
J1 s4 s5 w7) (
cl Pg F.limb_Cmp [s2.v, d.v] w4 [.one (.int .i64)] fun (r : Int) w8 =>
cond (decide ((r : Int) < 0)) (
R (x1.v) w8) (
cl Pg F.limb_One [.int .u64 1] w8 [.one .slice] fun (s6 : Sl) w9 =>
cl Pg F.limb_Add [x1.v, s6.v] w9 [.one .slice] fun (s7 : Sl) w10 =>
cl Pg F.limb_Add [p.v, d.v] w10 [.one .slice] fun (s8 : Sl) w11 =>
J1 s7 s8 w11))) fun (x3 : Sl) (p1 : Sl) w12 =>
bnd (wi (x2 + 1)) fun n1 =>
C0 x3 p1 n1 w12) (
J0 w3)) x s1 0 w2) fun  w13 =>
nck e0 fun a2 =>
ldc (.ptr) w13 a2 fun (v2 : Option Addr) =>
cl Pg F.divs_Engine_Long [.pointer v2, s.v, d.v] w13 [.one .slice, .one .slice, .one (.int .i64)] fun (s9 : Sl) (_ : Sl) (_ : Int) w14 =>
R (s9.v) w14
theorem Ct.recip_Engine_right {e0 : Option Addr} {d : Sl} {x : Sl} {n : Int} {w : TW} {X : Nat → Prop} {K : Tel (fl [.one .slice]) (TW → Prop)} (h : Sh.recip_Engine_right e0 d x n (Rt X [.one .slice] K w) w.here) : Ct Pg F.recip_Engine_right [.pointer e0, d.v, x.v, .int .i64 n] w X [.one .slice] K :=
 cod (Sh.recip_Engine_right e0 d x n) 74 [] [] [(2, 0, []), (3, 4, [(2, .one .slice), (10, .one .slice), (28, .one (.int .i64))]), (2, 1, [(2, .one .slice), (10, .one .slice)])] Go.Proofs.Tryz.f192 (by kernel_rfl) (by kernel_rfl) (by kernel_rfl) (fun _ _ => by kernel_rfl) h
def Sh.recip_New (t : HL [.int .i64, .int .i64, .int .i64, .int .i64, .int .i64, .int .i64, .int .i64, .int .i64, .int .i64, .int .i64, .int .i64]) (R : Value → TW → Prop) (w : TW) : Prop :=
nwv w fun w1 =>
cl Pg F.divs_New [.agg #[.int .i64 t.1, .int .i64 t.2.1, .int .i64 t.2.2.1, .int .i64 t.2.2.2.1, .int .i64 t.2.2.2.2.1, .int .i64 t.2.2.2.2.2.1, .int .i64 t.2.2.2.2.2.2.1, .int .i64 t.2.2.2.2.2.2.2.1, .int .i64 t.2.2.2.2.2.2.2.2.1, .int .i64 t.2.2.2.2.2.2.2.2.2.1, .int .i64 t.2.2.2.2.2.2.2.2.2.2.1]] w1 [.one .ptr] fun (p : Option Addr) w2 =>
nwb w2 [.pointer p] T.recip_Engine fun b w3 =>
R (.pointer (some ⟨b, 0, none⟩)) w3
theorem Ct.recip_New {t : HL [.int .i64, .int .i64, .int .i64, .int .i64, .int .i64, .int .i64, .int .i64, .int .i64, .int .i64, .int .i64, .int .i64]} {w : TW} {X : Nat → Prop} {K : Tel (fl [.one .ptr]) (TW → Prop)} (h : Sh.recip_New t (Rt X [.one .ptr] K w) w.here) : Ct Pg F.recip_New [.agg (encs [.int .i64, .int .i64, .int .i64, .int .i64, .int .i64, .int .i64, .int .i64, .int .i64, .int .i64, .int .i64, .int .i64] t).toArray] w X [.one .ptr] K :=
 cod (Sh.recip_New t) 7 [(1, 7)] [(7, 11)] [] Go.Proofs.Tryz.f205 (by kernel_rfl) (by kernel_rfl) (by kernel_rfl) (fun _ _ => by kernel_rfl) h
end Go.Proofs.YticehedkalheiaaGreatDoor.Zg
end

section
set_option maxRecDepth 100000
namespace Go.Proofs.YticehedkalheiaaGreatDoor.Zg
def Sh.root_New (t : HL [.int .i64, .int .i64, .int .i64, .int .i64, .int .i64, .int .i64, .int .i64, .int .i64, .int .i64, .int .i64, .int .i64]) (R : Value → TW → Prop) (w : TW) : Prop :=
nwv w fun w1 =>
cl Pg F.div_New [.agg #[.int .i64 t.1, .int .i64 t.2.1, .int .i64 t.2.2.1, .int .i64 t.2.2.2.1, .int .i64 t.2.2.2.2.1, .int .i64 t.2.2.2.2.2.1, .int .i64 t.2.2.2.2.2.2.1, .int .i64 t.2.2.2.2.2.2.2.1, .int .i64 t.2.2.2.2.2.2.2.2.1, .int .i64 t.2.2.2.2.2.2.2.2.2.1, .int .i64 t.2.2.2.2.2.2.2.2.2.2.1]] w1 [.one .ptr] fun (p : Option Addr) w2 =>
nwb w2 [.pointer p] T.root_Engine fun b w3 =>
R (.pointer (some ⟨b, 0, none⟩)) w3
theorem Ct.root_New {t : HL [.int .i64, .int .i64, .int .i64, .int .i64, .int .i64, .int .i64, .int .i64, .int .i64, .int .i64, .int .i64, .int .i64]} {w : TW} {X : Nat → Prop} {K : Tel (fl [.one .ptr]) (TW → Prop)} (h : Sh.root_New t (Rt X [.one .ptr] K w) w.here) : Ct Pg F.root_New [.agg (encs [.int .i64, .int .i64, .int .i64, .int .i64, .int .i64, .int .i64, .int .i64, .int .i64, .int .i64, .int .i64, .int .i64] t).toArray] w X [.one .ptr] K :=
 cod (Sh.root_New t) 7 [(1, 7)] [(7, 11)] [] Go.Proofs.Tryz.f178 (by kernel_rfl) (by kernel_rfl) (by kernel_rfl) (fun _ _ => by kernel_rfl) h
end Go.Proofs.YticehedkalheiaaGreatDoor.Zg
end

section
set_option maxRecDepth 100000
namespace Go.Proofs.YticehedkalheiaaGreatDoor.Zg
def Sh.school_Engine_Mul (e0 : Option Addr) (a : Sl) (b : Sl) (R : Value → TW → Prop) (w : TW) : Prop :=
nck e0 fun a1 =>
ldc (.ptr) w a1 fun (v : Option Addr) =>
nck v fun a2 =>
bnd (wi ((a.n : Int) * (b.n : Int))) fun n =>
cl Pg F.meter_Meter_Spend [.pointer (some a2), .int .i64 n] w [.one (.int .i64)] fun (_ : Int) w1 =>
bnd (wi ((a.n : Int) + (b.n : Int))) fun n1 =>
mks w1 n1 n1 T.uint64 8 [.int .u64 0] fun s w2 =>
Jn [] (fun J0 =>
Lp [.int .i64] (fun (x : Int) w3 C0 =>
cond (decide ((x : Int) < (a.n : Int))) (
ixa a x 1 fun a3 =>
ldc (.int .u64) w3 a3 fun (v1 : Int) =>
Jn [.int .u64] (fun J1 =>
Lp [.int .u64, .int .i64] (fun (c : Int) (x1 : Int) w4 C1 =>
cond (decide ((x1 : Int) < (b.n : Int))) (
ixa b x1 1 fun a4 =>
ldc (.int .u64) w4 a4 fun (v2 : Int) =>
cl Pg F.bits_Mul64 [.int .u64 v1, .int .u64 v2] w4 [.one (.int .u64), .one (.int .u64)] fun (r1 : Int) (r2 : Int) w5 =>
add64 r2 c 0 fun s1 c1 =>
bnd (wu (r1 + c1)) fun n2 =>
bnd (wi (x + x1)) fun n3 =>
bnd (wi (x + x1)) fun n4 =>
ixa s n4 1 fun a5 =>
ldc (.int .u64) w5 a5 fun (v3 : Int) =>
add64 v3 s1 0 fun s2 c2 =>
ixa s n3 1 fun a6 =>
stc w5 a6 (.int .u64 s2) fun w6 =>
bnd (wu (n2 + c2)) fun n5 =>
bnd (wi (x1 + 1)) fun n6 =>
C1 n5 n6 w6) (
J1 c w4)) 0 0 w3) fun (c3 : Int) w7 =>
bnd (wi (x + (b.n : Int))) fun n7 =>
ixa s n7 1 fun a7 =>
stc w7 a7 (.int .u64 c3) fun w8 =>
bnd (wi (x + 1)) fun n8 =>
C0 n8 w8) (
J0 w3)) 0 w2) fun  w9 =>
cl Pg F.limb_Norm [s.v] w9 [.one .slice] fun (s3 : Sl) w10 =>
R (s3.v) w10
theorem Ct.school_Engine_Mul {e0 : Option Addr} {a : Sl} {b : Sl} {w : TW} {X : Nat → Prop} {K : Tel (fl [.one .slice]) (TW → Prop)} (h : Sh.school_Engine_Mul e0 a b (Rt X [.one .slice] K w) w.here) : Ct Pg F.school_Engine_Mul [.pointer e0, a.v, b.v] w X [.one .slice] K :=
 cod (Sh.school_Engine_Mul e0 a b) 94 [] [] [(2, 0, []), (3, 4, [(37, .one (.int .i64))]), (2, 2, [(10, .one (.int .u64))]), (3, 8, [(10, .one (.int .u64)), (44, .one (.int .i64))])] Go.Proofs.Tryz.f146 (by kernel_rfl) (by kernel_rfl) (by kernel_rfl) (fun _ _ => by kernel_rfl) h
def Sh.school_New (t : HL [.int .i64, .int .i64, .int .i64, .int .i64, .int .i64, .int .i64, .int .i64, .int .i64, .int .i64, .int .i64, .int .i64]) (R : Value → TW → Prop) (w : TW) : Prop :=
nwv w fun w1 =>
cl Pg F.table_New [.agg #[.int .i64 t.1, .int .i64 t.2.1, .int .i64 t.2.2.1, .int .i64 t.2.2.2.1, .int .i64 t.2.2.2.2.1, .int .i64 t.2.2.2.2.2.1, .int .i64 t.2.2.2.2.2.2.1, .int .i64 t.2.2.2.2.2.2.2.1, .int .i64 t.2.2.2.2.2.2.2.2.1, .int .i64 t.2.2.2.2.2.2.2.2.2.1, .int .i64 t.2.2.2.2.2.2.2.2.2.2.1]] w1 [.one .ptr] fun (p : Option Addr) w2 =>
nwb w2 [.pointer p] T.school_Engine fun b w3 =>
R (.pointer (some ⟨b, 0, none⟩)) w3
theorem Ct.school_New {t : HL [.int .i64, .int .i64, .int .i64, .int .i64, .int .i64, .int .i64, .int .i64, .int .i64, .int .i64, .int .i64, .int .i64]} {w : TW} {X : Nat → Prop} {K : Tel (fl [.one .ptr]) (TW → Prop)} (h : Sh.school_New t (Rt X [.one .ptr] K w) w.here) : Ct Pg F.school_New [.agg (encs [.int .i64, .int .i64, .int .i64, .int .i64, .int .i64, .int .i64, .int .i64, .int .i64, .int .i64, .int .i64, .int .i64] t).toArray] w X [.one .ptr] K :=
 cod (Sh.school_New t) 7 [(1, 7)] [(7, 11)] [] Go.Proofs.Tryz.f243 (by kernel_rfl) (by kernel_rfl) (by kernel_rfl) (fun _ _ => by kernel_rfl) h
end Go.Proofs.YticehedkalheiaaGreatDoor.Zg
end
