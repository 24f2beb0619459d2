/- A part of the proofs of this seat's laws: words, lemmas or contracts of its functions. -/
import Derived.Test.YtjhfalgmgagdhaaGreatDoorGC
set_option linter.unusedVariables false
set_option linter.unusedSimpArgs false
set_option linter.unnecessarySimpa false
section
set_option maxRecDepth 100000
namespace Go.Proofs.YtjhfalgmgagdhaaGreatDoor.Zg
def Sh.zigguratkeep_Within (v : Int) (n : Int) (R : Value → TW → Prop) (w : TW) : Prop :=
cond (decide ((n : Int) < 1)) (
R (.int .i64 0) w) (
remK v n fun n1 =>
Jn [.int .i64] (fun J0 =>
cond (decide ((n1 : Int) < 0)) (
bnd (wi (n1 + n)) fun n2 =>
J0 n2 w) (
J0 n1 w)) fun (k : Int) w1 =>
R (.int .i64 k) w1)
theorem Ct.zigguratkeep_Within {v : Int} {n : Int} {w : TW} {X : Nat → Prop} {K : Tel (fl [.one (.int .i64)]) (TW → Prop)} (h : Sh.zigguratkeep_Within v n (Rt X [.one (.int .i64)] K w) w.here) : Ct Pg F.zigguratkeep_Within [.int .i64 v, .int .i64 n] w X [.one (.int .i64)] K :=
 cod (Sh.zigguratkeep_Within v n) 17 [] [] [(1, 5, [(5, .one (.int .i64))])] Go.Proofs.Tryz.f9 (by kernel_rfl) (by kernel_rfl) (by kernel_rfl) (fun _ _ => by kernel_rfl) h
def Sh.zigguratkeep_Same (a : Sl) (b : Sl) (R : Value → TW → Prop) (w : TW) : Prop :=
cond (((a.n : Int) : Int) != (b.n : Int)) (
R (.bool false) w) (
Jn [] (fun J0 =>
Lp [.int .i64] (fun (i : Int) w1 C0 =>
cond (decide ((i : Int) < (a.n : Int))) (
ixa a i 1 fun a1 =>
ldc (.int .u64) w1.drew a1 fun (v : Int) =>
ixa b i 1 fun a2 =>
ldc (.int .u64) w1.drew a2 fun (v1 : Int) =>
cond ((v : Int) != v1) (
R (.bool false) w1.drew) (
bnd (wi (i + 1)) fun n =>
C0 n w1.drew)) (
J0 w1)) 0 w) fun  w2 =>
R (.bool true) w2)
theorem Ct.zigguratkeep_Same {a : Sl} {b : Sl} {w : TW} {X : Nat → Prop} {K : Tel (fl [.one .bool]) (TW → Prop)} (h : Sh.zigguratkeep_Same a b (Rt X [.one .bool] K w) w.here) : Ct Pg F.zigguratkeep_Same [a.v, b.v] w X [.one .bool] K :=
 cod (Sh.zigguratkeep_Same a b) 26 [] [] [(2, 0, []), (3, 4, [(5, .one (.int .i64))])] Go.Proofs.Tryz.f15 (by kernel_rfl) (by kernel_rfl) (by kernel_rfl) (fun _ _ => by kernel_rfl) h
def Sh.zigguratkeep_Int (a0 : Sl) (a1 : Bool) (b0 : Sl) (b1 : Bool) (R : Value → TW → Prop) (w : TW) : Prop :=
nwv w fun w1 =>
nwv w1 fun w2 =>
Jn [.bool] (fun J0 =>
cond (a1 == b1) (
cl Pg F.zigguratkeep_Same [a0.v, b0.v] w2 [.one .bool] fun (ok : Bool) w3 =>
J0 ok w3) (
J0 false w2)) fun (x : Bool) w4 =>
R (.bool x) w4
theorem Ct.zigguratkeep_Int {a0 : Sl} {a1 : Bool} {b0 : Sl} {b1 : Bool} {w : TW} {X : Nat → Prop} {K : Tel (fl [.one .bool]) (TW → Prop)} (h : Sh.zigguratkeep_Int a0 a1 b0 b1 (Rt X [.one .bool] K w) w.here) : Ct Pg F.zigguratkeep_Int [.agg #[a0.v, .bool a1], .agg #[b0.v, .bool b1]] w X [.one .bool] K :=
 cod (Sh.zigguratkeep_Int a0 a1 b0 b1) 17 [(2, 17), (3, 19)] [(17, 2), (19, 2)] [(0, 1, [(4, .one .bool)])] Go.Proofs.Tryz.f31 (by kernel_rfl) (by kernel_rfl) (by kernel_rfl) (fun _ _ => by kernel_rfl) h
def Sh.zigguratkeep_Cut (a : Sl) (n : Int) (R : Value → TW → Prop) (w : TW) : Prop :=
bnd (if (n : Int) < (a.n : Int) then n else (a.n : Int)) fun n1 =>
slc a 0 n1 1 fun s =>
R (s.v) w
theorem Ct.zigguratkeep_Cut {a : Sl} {n : Int} {w : TW} {X : Nat → Prop} {K : Tel (fl [.one .slice]) (TW → Prop)} (h : Sh.zigguratkeep_Cut a n (Rt X [.one .slice] K w) w.here) : Ct Pg F.zigguratkeep_Cut [a.v, .int .i64 n] w X [.one .slice] K :=
 cod (Sh.zigguratkeep_Cut a n) 11 [] [] [] Go.Proofs.Tryz.f37 (by kernel_rfl) (by kernel_rfl) (by kernel_rfl) (fun _ _ => by kernel_rfl) h
end Go.Proofs.YtjhfalgmgagdhaaGreatDoor.Zg
end

section
set_option maxRecDepth 100000
namespace Go.Proofs.YtjhfalgmgagdhaaGreatDoor.Zg
def Sh.zigguratlaw22_ModnRemainders (t : HL [.int .i64, .int .i64, .int .i64, .int .i64, .int .i64, .int .i64, .int .i64, .int .i64, .int .i64, .int .i64, .int .i64]) (u : HL [.int .i64, .int .i64, .int .i64, .int .i64, .int .i64, .int .i64, .int .i64, .int .i64, .int .i64, .int .i64, .int .i64]) (l : Sl) (turn : Int) (R : Value → TW → Prop) (w : TW) : Prop :=
nwv w fun w1 =>
nwv w1 fun w2 =>
cl Pg F.modn_New [.agg #[.int .i64 t.1, .int .i64 t.2.1, .int .i64 t.2.2.1, .int .i64 t.2.2.2.1, .int .i64 t.2.2.2.2.1, .int .i64 t.2.2.2.2.2.1, .int .i64 t.2.2.2.2.2.2.1, .int .i64 t.2.2.2.2.2.2.2.1, .int .i64 t.2.2.2.2.2.2.2.2.1, .int .i64 t.2.2.2.2.2.2.2.2.2.1, .int .i64 t.2.2.2.2.2.2.2.2.2.2.1]] w2.drew [.one .ptr] fun (p : Option Addr) w3 =>
cl Pg F.modn_New [.agg #[.int .i64 u.1, .int .i64 u.2.1, .int .i64 u.2.2.1, .int .i64 u.2.2.2.1, .int .i64 u.2.2.2.2.1, .int .i64 u.2.2.2.2.2.1, .int .i64 u.2.2.2.2.2.2.1, .int .i64 u.2.2.2.2.2.2.2.1, .int .i64 u.2.2.2.2.2.2.2.2.1, .int .i64 u.2.2.2.2.2.2.2.2.2.1, .int .i64 u.2.2.2.2.2.2.2.2.2.2.1]] w3 [.one .ptr] fun (p1 : Option Addr) w4 =>
Jn [.bool] (fun J0 =>
cond (Option.isNone p) (
J0 true w4) (
J0 (Option.isNone p1) w4)) fun (x : Bool) w5 =>
cond x (
R (.bool false) w5) (
cl Pg F.zigguratlaw22_pairs [l.v, .int .i64 5, .int .i64 4] w5 [.one .slice] fun (s : Sl) w6 =>
bnd (wi ((s.n : Int) + 1)) fun n =>
cl Pg F.zigguratkeep_Within [.int .i64 turn, .int .i64 n] w6 [.one (.int .i64)] fun (r : Int) w7 =>
slc s r (s.n : Nat) 2 fun s1 =>
slc s 0 r 2 fun s2 =>
apd w7.drew T.api_Pair 2 48 Sl.nil s1 fun s3 w8 =>
apd w8 T.api_Pair 2 48 s3 s2 fun s4 w9 =>
cl Pg F.modn_Engine_Crt [.pointer p, s.v] w9 [.agg [.slice, .slice], .one (.int .i64)] fun (r1 : Sl) (r2 : Sl) (r3 : Int) w10 =>
nwv w10 fun w11 =>
nwv w11 fun w12 =>
cl Pg F.modn_Engine_Crt [.pointer p1, s4.v] w12 [.agg [.slice, .slice], .one (.int .i64)] fun (r4 : Sl) (r5 : Sl) (r6 : Int) w13 =>
nwv w13 fun w14 =>
nwv w14 fun w15 =>
Jn [.bool, .slice, .slice, .slice, .slice] (fun J1 =>
cond ((r3 : Int) != 0) (
J1 true r1 r2 r4 r5 w15) (
J1 ((r6 : Int) != 0) r1 r2 r4 r5 w15)) fun (x1 : Bool) (p2 : Sl) (p3 : Sl) (q : Sl) (q1 : Sl) w16 =>
cond x1 (
Jn [.bool] (fun J2 =>
cond ((r3 : Int) == r6) (
cl Pg F.zigguratlaw22_wakes [] w16 [.one .bool] fun (ok : Bool) w17 =>
J2 ok w17) (
J2 false w16)) fun (x2 : Bool) w18 =>
R (.bool x2) w18) (
Jn [.slice, .slice, .slice, .slice] (fun J3 =>
Lp [.int .i64, .slice, .slice, .slice, .slice] (fun (i : Int) (p4 : Sl) (p5 : Sl) (q2 : Sl) (q3 : Sl) w19 C0 =>
cond (decide ((i : Int) < (s.n : Int))) (
ixa s i 2 fun a =>
ldc (.slice) w19 (a.add 1) fun (v : Sl) =>
cl Pg F.zigguratlaw22_from [v.v] w19 [.one .slice] fun (s5 : Sl) w20 =>
ixa s i 2 fun a1 =>
ldc (.slice) w20.drew a1 fun (v1 : Sl) =>
cl Pg F.zigguratlaw22_from [p4.v] w20.drew [.one .slice] fun (s6 : Sl) w21 =>
hld w21 [(a1, v1.v)] <|
cl Pg F.zigguratref02_Mod [s6.v, s5.v] w21 [.one .slice] fun (s7 : Sl) w22 =>
hld w22 [(a1, v1.v)] <|
cl Pg F.zigguratlaw22_from [v1.v] w22 [.one .slice] fun (s8 : Sl) w23 =>
cl Pg F.zigguratref02_Mod [s8.v, s5.v] w23 [.one .slice] fun (s9 : Sl) w24 =>
cl Pg F.zigguratref02_Cmp [s7.v, s9.v] w24 [.one (.int .i64)] fun (r7 : Int) w25 =>
cond ((r7 : Int) != 0) (
R (.bool false) w25) (
bnd (wi (i + 1)) fun n1 =>
C0 n1 p4 p5 q2 q3 w25)) (
J3 p4 p5 q2 q3 w19)) 0 p2 p3 q q1 w16) fun (p6 : Sl) (p7 : Sl) (q4 : Sl) (q5 : Sl) w26 =>
Jn [.bool] (fun J4 =>
cl Pg F.zigguratlaw22_from [p6.v] w26.drew [.one .slice] fun (s10 : Sl) w27 =>
cl Pg F.zigguratlaw22_from [p7.v] w27 [.one .slice] fun (s11 : Sl) w28 =>
cl Pg F.zigguratref02_Cmp [s10.v, s11.v] w28 [.one (.int .i64)] fun (r8 : Int) w29 =>
cond (decide ((r8 : Int) < 0)) (
cl Pg F.zigguratkeep_Same [p6.v, q4.v] w29 [.one .bool] fun (ok1 : Bool) w30 =>
cond ok1 (
cl Pg F.zigguratkeep_Same [p7.v, q5.v] w30 [.one .bool] fun (ok2 : Bool) w31 =>
cond ok2 (
cl Pg F.zigguratlaw22_wakes [] w31 [.one .bool] fun (ok3 : Bool) w32 =>
J4 ok3 w32) (
J4 false w31)) (
J4 false w30)) (
J4 false w29)) fun (x3 : Bool) w33 =>
R (.bool x3) w33))
theorem Ct.zigguratlaw22_ModnRemainders {t : HL [.int .i64, .int .i64, .int .i64, .int .i64, .int .i64, .int .i64, .int .i64, .int .i64, .int .i64, .int .i64, .int .i64]} {u : HL [.int .i64, .int .i64, .int .i64, .int .i64, .int .i64, .int .i64, .int .i64, .int .i64, .int .i64, .int .i64, .int .i64]} {l : Sl} {turn : Int} {w : TW} {X : Nat → Prop} {K : Tel (fl [.one .bool]) (TW → Prop)} (h : Sh.zigguratlaw22_ModnRemainders t u l turn (Rt X [.one .bool] K w) w.here) : Ct Pg F.zigguratlaw22_ModnRemainders [.agg (encs [.int .i64, .int .i64, .int .i64, .int .i64, .int .i64, .int .i64, .int .i64, .int .i64, .int .i64, .int .i64, .int .i64] t).toArray, .agg (encs [.int .i64, .int .i64, .int .i64, .int .i64, .int .i64, .int .i64, .int .i64, .int .i64, .int .i64, .int .i64, .int .i64] u).toArray, l.v, .int .i64 turn] w X [.one .bool] K :=
 cod (Sh.zigguratlaw22_ModnRemainders t u l turn) 121 [(4, 121), (5, 132), (14, 143), (16, 145)] [(121, 11), (132, 11), (143, 2), (145, 2)] [(0, 2, [(29, .one .bool)]), (0, 9, [(62, .one .bool), (143, .one .slice), (144, .one .slice), (145, .one .slice), (146, .one .slice)]), (0, 10, [(8, .one .bool)]), (2, 0, [(143, .one .slice), (144, .one .slice), (145, .one .slice), (146, .one .slice)]), (3, 12, [(18, .one (.int .i64)), (143, .one .slice), (144, .one .slice), (145, .one .slice), (146, .one .slice)]), (0, 17, [(8, .one .bool)])] Go.Proofs.Tryz.f3 (by kernel_rfl) (by kernel_rfl) (by kernel_rfl) (fun _ _ => by kernel_rfl) h
def Sh.zigguratlaw22_pairs (l : Sl) (k : Int) (n : Int) (R : Value → TW → Prop) (w : TW) : Prop :=
Jn [.slice] (fun J0 =>
Lp [.slice, .int .i64] (fun (out : Sl) (i : Int) w1 C0 =>
Jn [.bool] (fun J1 =>
bnd (wi (i + 1)) fun n1 =>
cond (decide ((n1 : Int) < (l.n : Int))) (
J1 (decide (((out.n : Int) : Int) < k)) w1) (
J1 false w1)) fun (x : Bool) w2 =>
cond x (
ixa l i 1 fun a =>
ldc (.slice) w2.drew a fun (v : Sl) =>
bnd (wi (i + 1)) fun n2 =>
ixa l n2 1 fun a1 =>
ldc (.slice) w2.drew a1 fun (v1 : Sl) =>
cl Pg F.zigguratkeep_Cut [v.v, .int .i64 n] w2.drew [.one .slice] fun (s : Sl) w3 =>
hld w3 [(a1, v1.v)] <|
cl Pg F.zigguratkeep_Cut [v1.v, .int .i64 n] w3 [.one .slice] fun (s1 : Sl) w4 =>
nwb w4 [s.v, s1.v] T.api_Pair fun b w5 =>
apd w5 T.api_Pair 2 48 out ⟨(some ⟨b, 0, none⟩), 1, 1⟩ fun s2 w6 =>
bnd (wi (i + 2)) fun n3 =>
C0 s2 n3 w6) (
J0 out w2)) Sl.nil 0 w) fun (out1 : Sl) w7 =>
R (out1.v) w7
theorem Ct.zigguratlaw22_pairs {l : Sl} {k : Int} {n : Int} {w : TW} {X : Nat → Prop} {K : Tel (fl [.one .slice]) (TW → Prop)} (h : Sh.zigguratlaw22_pairs l k n (Rt X [.one .slice] K w) w.here) : Ct Pg F.zigguratlaw22_pairs [l.v, .int .i64 k, .int .i64 n] w X [.one .slice] K :=
 cod (Sh.zigguratlaw22_pairs l k n) 40 [] [] [(2, 0, [(7, .one .slice)]), (3, 3, [(7, .one .slice), (8, .one (.int .i64))]), (0, 3, [(19, .one .bool)])] Go.Proofs.Tryz.f8 (by kernel_rfl) (by kernel_rfl) (by kernel_rfl) (fun _ _ => by kernel_rfl) h
def Sh.zigguratlaw22_wakes (R : Value → TW → Prop) (w : TW) : Prop :=
cl Pg F.modn_New [.agg #[.int .i64 0, .int .i64 0, .int .i64 0, .int .i64 0, .int .i64 0, .int .i64 0, .int .i64 0, .int .i64 0, .int .i64 0, .int .i64 0, .int .i64 0]] w [.one .ptr] fun (p : Option Addr) w1 =>
cond (Option.isNone p) (
R (.bool false) w1) (
nwb w1 [.int .u64 2] T.uint64 fun b w2 =>
nwb w2 [.int .u64 3] T.uint64 fun b1 w3 =>
nwb w3 [.int .u64 3] T.uint64 fun b2 w4 =>
nwb w4 [.int .u64 5] T.uint64 fun b3 w5 =>
nwb w5 [.slice (some ⟨b, 0, none⟩) 1 1, .slice (some ⟨b1, 0, none⟩) 1 1, .slice (some ⟨b2, 0, none⟩) 1 1, .slice (some ⟨b3, 0, none⟩) 1 1] T.api_Pair fun b4 w6 =>
cl Pg F.modn_Engine_Crt [.pointer p, .slice (some ⟨b4, 0, none⟩) 2 2] w6 [.agg [.slice, .slice], .one (.int .i64)] fun (r : Sl) (r1 : Sl) (r2 : Int) w7 =>
nwv w7 fun w8 =>
nwv w8 fun w9 =>
cl Pg F.modn_Engine_Signed [.pointer p, .agg #[r.v, r1.v]] w9 [.agg [.slice, .bool], .one (.int .i64)] fun (r3 : Sl) (r4 : Bool) (r5 : Int) w10 =>
nwv w10 fun w11 =>
nwv w11 fun w12 =>
Jn [.bool] (fun J0 =>
cond ((r2 : Int) == 0) (
cond ((r5 : Int) == 0) (
nwb w12.drew [.int .u64 8] T.uint64 fun b5 w13 =>
cl Pg F.zigguratkeep_Same [r.v, .slice (some ⟨b5, 0, none⟩) 1 1] w13 [.one .bool] fun (ok : Bool) w14 =>
cond ok (
nwb w14 [.int .u64 15] T.uint64 fun b6 w15 =>
cl Pg F.zigguratkeep_Same [r1.v, .slice (some ⟨b6, 0, none⟩) 1 1] w15 [.one .bool] fun (ok1 : Bool) w16 =>
cond ok1 (
cl Pg F.num_Of [.int .i64 (-7)] w16 [.agg [.slice, .bool]] fun (r6 : Sl) (r7 : Bool) w17 =>
cl Pg F.zigguratkeep_Int [.agg #[r3.v, .bool r4], .agg #[r6.v, .bool r7]] w17 [.one .bool] fun (ok2 : Bool) w18 =>
J0 ok2 w18) (
J0 false w16)) (
J0 false w14)) (
J0 false w12.drew)) (
J0 false w12.drew)) fun (x : Bool) w19 =>
R (.bool x) w19)
theorem Ct.zigguratlaw22_wakes {w : TW} {X : Nat → Prop} {K : Tel (fl [.one .bool]) (TW → Prop)} (h : Sh.zigguratlaw22_wakes (Rt X [.one .bool] K w) w.here) : Ct Pg F.zigguratlaw22_wakes [] w X [.one .bool] K :=
 cod Sh.zigguratlaw22_wakes 51 [(2, 51), (4, 53)] [(51, 2), (53, 2)] [(0, 6, [(0, .one .bool)])] Go.Proofs.Tryz.f11 (by kernel_rfl) (by kernel_rfl) (by kernel_rfl) (fun _ _ => by kernel_rfl) h
def Sh.zigguratlaw22_from (a : Sl) (R : Value → TW → Prop) (w : TW) : Prop :=
cl Pg F.zigguratref02_From [a.v] w [.one .slice] fun (s : Sl) w1 =>
R (s.v) w1
theorem Ct.zigguratlaw22_from {a : Sl} {w : TW} {X : Nat → Prop} {K : Tel (fl [.one .slice]) (TW → Prop)} (h : Sh.zigguratlaw22_from a (Rt X [.one .slice] K w) w.here) : Ct Pg F.zigguratlaw22_from [a.v] w X [.one .slice] K :=
 cod (Sh.zigguratlaw22_from a) 5 [] [] [] Go.Proofs.Tryz.f12 (by kernel_rfl) (by kernel_rfl) (by kernel_rfl) (fun _ _ => by kernel_rfl) h
end Go.Proofs.YtjhfalgmgagdhaaGreatDoor.Zg
end

section
set_option maxRecDepth 100000
namespace Go.Proofs.YtjhfalgmgagdhaaGreatDoor.Zg
def Sh.zigguratref02_Cmp (a : Sl) (b : Sl) (R : Value → TW → Prop) (w : TW) : Prop :=
cond (((a.n : Int) : Int) != (b.n : Int)) (
cond (decide (((a.n : Int) : Int) < (b.n : Int))) (
R (.int .i64 (-1)) w) (
R (.int .i64 1) w)) (
bnd (wi ((a.n : Int) - 1)) fun n =>
Jn [] (fun J0 =>
Lp [.int .i64] (fun (i : Int) w1 C0 =>
cond (decide ((i : Int) ≥ 0)) (
ixa a i 1 fun a1 =>
ldc (.int .u64) w1.drew a1 fun (v : Int) =>
ixa b i 1 fun a2 =>
ldc (.int .u64) w1.drew a2 fun (v1 : Int) =>
cond (decide ((v : Int) < v1)) (
R (.int .i64 (-1)) w1.drew) (
ixa a i 1 fun a3 =>
ldc (.int .u64) w1.drew.drew a3 fun (v2 : Int) =>
ixa b i 1 fun a4 =>
ldc (.int .u64) w1.drew.drew a4 fun (v3 : Int) =>
cond (decide ((v2 : Int) > v3)) (
R (.int .i64 1) w1.drew.drew) (
bnd (wi (i - 1)) fun n1 =>
C0 n1 w1.drew.drew))) (
J0 w1)) n w) fun  w2 =>
R (.int .i64 0) w2)
theorem Ct.zigguratref02_Cmp {a : Sl} {b : Sl} {w : TW} {X : Nat → Prop} {K : Tel (fl [.one (.int .i64)]) (TW → Prop)} (h : Sh.zigguratref02_Cmp a b (Rt X [.one (.int .i64)] K w) w.here) : Ct Pg F.zigguratref02_Cmp [a.v, b.v] w X [.one (.int .i64)] K :=
 cod (Sh.zigguratref02_Cmp a b) 41 [] [] [(2, 0, []), (3, 6, [(5, .one (.int .i64))])] Go.Proofs.Tryz.f13 (by kernel_rfl) (by kernel_rfl) (by kernel_rfl) (fun _ _ => by kernel_rfl) h
def Sh.zigguratref02_Mod (a : Sl) (d : Sl) (R : Value → TW → Prop) (w : TW) : Prop :=
cl Pg F.zigguratref02_DivMod [a.v, d.v] w [.one .slice, .one .slice] fun (_ : Sl) (s1 : Sl) w1 =>
R (s1.v) w1
theorem Ct.zigguratref02_Mod {a : Sl} {d : Sl} {w : TW} {X : Nat → Prop} {K : Tel (fl [.one .slice]) (TW → Prop)} (h : Sh.zigguratref02_Mod a d (Rt X [.one .slice] K w) w.here) : Ct Pg F.zigguratref02_Mod [a.v, d.v] w X [.one .slice] K :=
 cod (Sh.zigguratref02_Mod a d) 14 [] [] [] Go.Proofs.Tryz.f14 (by kernel_rfl) (by kernel_rfl) (by kernel_rfl) (fun _ _ => by kernel_rfl) h
def Sh.zigguratref02_From (a : Sl) (R : Value → TW → Prop) (w : TW) : Prop :=
bnd (wi (2 * (a.n : Int))) fun n =>
mks w 0 n T.uint64 8 [.int .u64 0] fun s w1 =>
Jn [.slice] (fun J0 =>
Lp [.slice, .int .i64] (fun (out : Sl) (i : Int) w2 C0 =>
cond (decide ((i : Int) < (a.n : Int))) (
ixa a i 1 fun a1 =>
ldc (.int .u64) w2.drew a1 fun (v : Int) =>
remK v 4294967296 fun n1 =>
ixa a i 1 fun a2 =>
ldc (.int .u64) w2.drew a2 fun (v1 : Int) =>
divK .u64 v1 4294967296 fun n2 =>
nwb w2.drew [.int .u64 n1, .int .u64 n2] T.uint64 fun b w3 =>
hld w3 [(a2, .int .u64 v1), (a1, .int .u64 v)] <|
apd w3 T.uint64 1 8 out ⟨(some ⟨b, 0, none⟩), 2, 2⟩ fun s1 w4 =>
hld w4 [(a2, .int .u64 v1), (a1, .int .u64 v)] <|
bnd (wi (i + 1)) fun n3 =>
C0 s1 n3 w4) (
J0 out w2)) s 0 w1) fun (out1 : Sl) w5 =>
cl Pg F.zigguratref02_norm [out1.v] w5 [.one .slice] fun (s2 : Sl) w6 =>
R (s2.v) w6
theorem Ct.zigguratref02_From {a : Sl} {w : TW} {X : Nat → Prop} {K : Tel (fl [.one .slice]) (TW → Prop)} (h : Sh.zigguratref02_From a (Rt X [.one .slice] K w) w.here) : Ct Pg F.zigguratref02_From [a.v] w X [.one .slice] K :=
 cod (Sh.zigguratref02_From a) 30 [] [] [(2, 0, [(3, .one .slice)]), (3, 3, [(3, .one .slice), (4, .one (.int .i64))])] Go.Proofs.Tryz.f47 (by kernel_rfl) (by kernel_rfl) (by kernel_rfl) (fun _ _ => by kernel_rfl) h
def Sh.zigguratref02_DivMod (a : Sl) (d : Sl) (R : Value → TW → Prop) (w : TW) : Prop :=
cl Pg F.zigguratref02_Cmp [a.v, d.v] w [.one (.int .i64)] fun (r : Int) w1 =>
cond (decide ((r : Int) < 0)) (
R (.tuple #[.slice none 0 0, a.v]) w1) (
bnd (wi ((d.n : Int) + 1)) fun n =>
mks w1 n n T.uint64 8 [.int .u64 0] fun s w2 =>
mks w2 (a.n : Int) (a.n : Int) T.uint64 8 [.int .u64 0] fun s1 w3 =>
cl Pg F.zigguratref02_Bits [a.v] w3 [.one (.int .i64)] fun (r1 : Int) w4 =>
bnd (wi (r1 - 1)) fun n1 =>
Jn [] (fun J0 =>
Lp [.int .i64] (fun (i : Int) w5 C0 =>
cond (decide ((i : Int) ≥ 0)) (
cl Pg F.zigguratref02_bit [a.v, .int .i64 i] w5 [.one (.int .u64)] fun (r2 : Int) w6 =>
cl Pg F.zigguratref02_twice [s.v, .int .u64 r2, d.v] w6 [.one .bool] fun (ok : Bool) w7 =>
Jn [] (fun J1 =>
cond ok (
divK .i64 i 32 fun n2 =>
ixa s1 n2 1 fun a1 =>
ldc (.int .u64) w7 a1 fun (v : Int) =>
remK i 32 fun n3 =>
bnd (wu (n3)) fun n4 =>
shlK .u64 1 n4 fun n5 =>
bnd (bits2 .or .u64 v n5) fun n6 =>
ixa s1 n2 1 fun a2 =>
stc w7 a2 (.int .u64 n6) fun w8 =>
J1 w8) (
J1 w7)) fun  w9 =>
bnd (wi (i - 1)) fun n7 =>
C0 n7 w9) (
J0 w5)) n1 w4) fun  w10 =>
cl Pg F.zigguratref02_norm [s1.v] w10 [.one .slice] fun (s2 : Sl) w11 =>
cl Pg F.zigguratref02_norm [s.v] w11 [.one .slice] fun (s3 : Sl) w12 =>
R (.tuple #[s2.v, s3.v]) w12)
theorem Ct.zigguratref02_DivMod {a : Sl} {d : Sl} {w : TW} {X : Nat → Prop} {K : Tel (fl [.one .slice, .one .slice]) (TW → Prop)} (h : Sh.zigguratref02_DivMod a d (Rt X [.one .slice, .one .slice] K w) w.here) : Ct Pg F.zigguratref02_DivMod [a.v, d.v] w X [.one .slice, .one .slice] K :=
 cod (Sh.zigguratref02_DivMod a d) 49 [] [] [(2, 0, []), (3, 6, [(8, .one (.int .i64))]), (1, 9, [])] Go.Proofs.Tryz.f48 (by kernel_rfl) (by kernel_rfl) (by kernel_rfl) (fun _ _ => by kernel_rfl) h
def Sh.zigguratref02_Bits (a : Sl) (R : Value → TW → Prop) (w : TW) : Prop :=
cond (((a.n : Int) : Int) == 0) (
R (.int .i64 0) w) (
bnd (wi ((a.n : Int) - 1)) fun n =>
bnd (wi (32 * n)) fun n1 =>
bnd (wi ((a.n : Int) - 1)) fun n2 =>
ixa a n2 1 fun a1 =>
ldc (.int .u64) w a1 fun (v : Int) =>
Jn [.int .i64] (fun J0 =>
Lp [.int .i64, .int .u64] (fun (n3 : Int) (y : Int) w1 C0 =>
cond (decide ((y : Int) > 0)) (
bnd (wi (n3 + 1)) fun n4 =>
divK .u64 y 2 fun n5 =>
C0 n4 n5 w1) (
J0 n3 w1)) n1 v w) fun (n6 : Int) w2 =>
R (.int .i64 n6) w2)
theorem Ct.zigguratref02_Bits {a : Sl} {w : TW} {X : Nat → Prop} {K : Tel (fl [.one (.int .i64)]) (TW → Prop)} (h : Sh.zigguratref02_Bits a (Rt X [.one (.int .i64)] K w) w.here) : Ct Pg F.zigguratref02_Bits [a.v] w X [.one (.int .i64)] K :=
 cod (Sh.zigguratref02_Bits a) 25 [] [] [(2, 0, [(3, .one (.int .i64))]), (3, 5, [(3, .one (.int .i64)), (4, .one (.int .u64))])] Go.Proofs.Tryz.f70 (by kernel_rfl) (by kernel_rfl) (by kernel_rfl) (fun _ _ => by kernel_rfl) h
def Sh.zigguratref02_norm (a : Sl) (R : Value → TW → Prop) (w : TW) : Prop :=
Jn [.int .i64] (fun J0 =>
Lp [.int .i64] (fun (k : Int) w1 C0 =>
Jn [.bool] (fun J1 =>
cond (decide ((k : Int) > 0)) (
bnd (wi (k - 1)) fun n =>
ixa a n 1 fun a1 =>
ldc (.int .u64) w1 a1 fun (v : Int) =>
J1 ((v : Int) == 0) w1) (
J1 false w1)) fun (x : Bool) w2 =>
cond x (
bnd (wi (k - 1)) fun n1 =>
C0 n1 w2) (
J0 k w2)) (a.n : Int) w) fun (k1 : Int) w3 =>
slc a 0 k1 1 fun s =>
R (s.v) w3
theorem Ct.zigguratref02_norm {a : Sl} {w : TW} {X : Nat → Prop} {K : Tel (fl [.one .slice]) (TW → Prop)} (h : Sh.zigguratref02_norm a (Rt X [.one .slice] K w) w.here) : Ct Pg F.zigguratref02_norm [a.v] w X [.one .slice] K :=
 cod (Sh.zigguratref02_norm a) 21 [] [] [(2, 0, [(3, .one (.int .i64))]), (3, 2, [(3, .one (.int .i64))]), (0, 2, [(15, .one .bool)])] Go.Proofs.Tryz.f90 (by kernel_rfl) (by kernel_rfl) (by kernel_rfl) (fun _ _ => by kernel_rfl) h
def Sh.zigguratref02_twice (r : Sl) (b : Int) (d : Sl) (R : Value → TW → Prop) (w : TW) : Prop :=
Jn [] (fun J0 =>
Lp [.int .u64, .int .i64] (fun (b1 : Int) (i : Int) w1 C0 =>
cond (decide ((i : Int) < (r.n : Int))) (
ixa r i 1 fun a =>
ldc (.int .u64) w1 a fun (v : Int) =>
bnd (wu (2 * v)) fun n =>
bnd (wu (n + b1)) fun n1 =>
remK n1 4294967296 fun n2 =>
ixa r i 1 fun a1 =>
stc w1 a1 (.int .u64 n2) fun w2 =>
divK .u64 n1 4294967296 fun n3 =>
bnd (wi (i + 1)) fun n4 =>
C0 n3 n4 w2) (
J0 w1)) b 0 w) fun  w3 =>
bnd (wi ((r.n : Int) - 1)) fun n5 =>
Jn [.bool] (fun J1 =>
Lp [.bool, .int .i64] (fun (more : Bool) (i1 : Int) w4 C1 =>
cond (decide ((i1 : Int) ≥ 0)) (
Jn [.int .u64] (fun J2 =>
cond (decide ((i1 : Int) < (d.n : Int))) (
ixa d i1 1 fun a2 =>
ldc (.int .u64) w4 a2 fun (v1 : Int) =>
J2 v1 w4) (
J2 0 w4)) fun (y : Int) w5 =>
ixa r i1 1 fun a3 =>
ldc (.int .u64) w5 a3 fun (v2 : Int) =>
cond ((v2 : Int) != y) (
ixa r i1 1 fun a4 =>
ldc (.int .u64) w5 a4 fun (v3 : Int) =>
J1 (decide ((v3 : Int) > y)) w5) (
bnd (wi (i1 - 1)) fun n6 =>
C1 more n6 w5)) (
J1 more w4)) true n5 w3) fun (more1 : Bool) w6 =>
cond (!more1) (
R (.bool false) w6) (
Jn [] (fun J3 =>
Lp [.int .u64, .int .i64] (fun (c : Int) (i2 : Int) w7 C2 =>
cond (decide ((i2 : Int) < (r.n : Int))) (
Jn [.int .u64] (fun J4 =>
cond (decide ((i2 : Int) < (d.n : Int))) (
ixa d i2 1 fun a5 =>
ldc (.int .u64) w7 a5 fun (v4 : Int) =>
bnd (wu (c + v4)) fun n7 =>
J4 n7 w7) (
J4 c w7)) fun (s : Int) w8 =>
ixa r i2 1 fun a6 =>
ldc (.int .u64) w8 a6 fun (v5 : Int) =>
Jn [.int .u64] (fun J5 =>
cond (decide ((v5 : Int) ≥ s)) (
ixa r i2 1 fun a7 =>
ldc (.int .u64) w8 a7 fun (v6 : Int) =>
bnd (wu (v6 - s)) fun n8 =>
ixa r i2 1 fun a8 =>
stc w8 a8 (.int .u64 n8) fun w9 =>
J5 0 w9) (
ixa r i2 1 fun a9 =>
ldc (.int .u64) w8 a9 fun (v7 : Int) =>
bnd (wu (4294967296 - s)) fun n9 =>
bnd (wu (v7 + n9)) fun n10 =>
ixa r i2 1 fun a10 =>
stc w8 a10 (.int .u64 n10) fun w10 =>
J5 1 w10)) fun (c1 : Int) w11 =>
bnd (wi (i2 + 1)) fun n11 =>
C2 c1 n11 w11) (
J3 w7)) 0 0 w6) fun  w12 =>
R (.bool true) w12)
theorem Ct.zigguratref02_twice {r : Sl} {b : Int} {d : Sl} {w : TW} {X : Nat → Prop} {K : Tel (fl [.one .bool]) (TW → Prop)} (h : Sh.zigguratref02_twice r b d (Rt X [.one .bool] K w) w.here) : Ct Pg F.zigguratref02_twice [r.v, .int .u64 b, d.v] w X [.one .bool] K :=
 cod (Sh.zigguratref02_twice r b d) 102 [] [] [(2, 0, []), (3, 2, [(1, .one (.int .u64)), (7, .one (.int .i64))]), (2, 2, [(9, .one .bool)]), (3, 9, [(9, .one .bool), (10, .one (.int .i64))]), (1, 13, [(11, .one (.int .u64))]), (2, 4, []), (3, 20, [(12, .one (.int .u64)), (13, .one (.int .i64))]), (1, 24, [(14, .one (.int .u64))]), (1, 26, [(12, .one (.int .u64))])] Go.Proofs.Tryz.f91 (by kernel_rfl) (by kernel_rfl) (by kernel_rfl) (fun _ _ => by kernel_rfl) h
def Sh.zigguratref02_bit (a : Sl) (i : Int) (R : Value → TW → Prop) (w : TW) : Prop :=
divK .i64 i 32 fun n =>
ixa a n 1 fun a1 =>
ldc (.int .u64) w a1 fun (v : Int) =>
remK i 32 fun n1 =>
bnd (wu (n1)) fun n2 =>
shrK .u64 v n2 fun n3 =>
bnd (bits2 .and .u64 n3 1) fun n4 =>
R (.int .u64 n4) w
theorem Ct.zigguratref02_bit {a : Sl} {i : Int} {w : TW} {X : Nat → Prop} {K : Tel (fl [.one (.int .u64)]) (TW → Prop)} (h : Sh.zigguratref02_bit a i (Rt X [.one (.int .u64)] K w) w.here) : Ct Pg F.zigguratref02_bit [a.v, .int .i64 i] w X [.one (.int .u64)] K :=
 cod (Sh.zigguratref02_bit a i) 15 [] [] [] Go.Proofs.Tryz.f92 (by kernel_rfl) (by kernel_rfl) (by kernel_rfl) (fun _ _ => by kernel_rfl) h
end Go.Proofs.YtjhfalgmgagdhaaGreatDoor.Zg
end
