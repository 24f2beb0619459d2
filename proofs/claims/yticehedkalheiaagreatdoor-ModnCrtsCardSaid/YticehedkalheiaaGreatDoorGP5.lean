/- A part of the proofs of this seat's laws: words, lemmas or contracts of its functions. -/
import Derived.Test.YticehedkalheiaaGreatDoorGC
set_option linter.unusedVariables false
set_option linter.unusedSimpArgs false
set_option linter.unnecessarySimpa false
section
set_option maxRecDepth 100000
namespace Go.Proofs.YticehedkalheiaaGreatDoor.Zg
def Sh.zigguratref17_Xgcd (a : Sl) (b : Sl) (R : Value → TW → Prop) (w : TW) : Prop :=
nwv w fun w1 =>
nwv w1 fun w2 =>
Jn [.bool, .slice, .bool, .slice, .bool] (fun J0 =>
cl Pg F.zigguratref02_Zero [a.v] w2 [.one .bool] fun (ok : Bool) w3 =>
cond ok (
cl Pg F.zigguratref02_Zero [b.v] w3 [.one .bool] fun (ok1 : Bool) w4 =>
J0 ok1 Sl.nil false Sl.nil false w4) (
J0 false Sl.nil false Sl.nil false w3)) fun (x : Bool) (x1 : Sl) (x2 : Bool) (x3 : Sl) (x4 : Bool) w5 =>
cond x (
nwv w5 fun w6 =>
nwv w6 fun w7 =>
R (.tuple #[.slice none 0 0, .agg #[.slice none 0 0, .bool false], .agg #[.slice none 0 0, .bool false]]) w7) (
cl Pg F.zigguratref17_Small [.int .i64 1] w5 [.agg [.slice, .bool]] fun (r : Sl) (r1 : Bool) w8 =>
cl Pg F.zigguratref17_Small [.int .i64 1] w8 [.agg [.slice, .bool]] fun (r2 : Sl) (r3 : Bool) w9 =>
nwv w9 fun w10 =>
nwv w10 fun w11 =>
nwv w11 fun w12 =>
nwv w12 fun w13 =>
nwv w13 fun w14 =>
nwv w14 fun w15 =>
nwv w15 fun w16 =>
nwv w16 fun w17 =>
Jn [.slice, .slice, .bool, .slice, .bool, .slice, .bool, .slice, .bool] (fun J1 =>
Lp [.slice, .slice, .slice, .bool, .slice, .bool, .slice, .bool, .slice, .bool, .slice, .bool, .slice, .bool] (fun (a1 : Sl) (b1 : Sl) (x5 : Sl) (x6 : Bool) (x7 : Sl) (x8 : Bool) (x0 : Sl) (x01 : Bool) (y0 : Sl) (y01 : Bool) (x11 : Sl) (x12 : Bool) (y1 : Sl) (y11 : Bool) w18 C0 =>
cl Pg F.zigguratref02_Zero [b1.v] w18 [.one .bool] fun (ok2 : Bool) w19 =>
cond (!ok2) (
cl Pg F.zigguratref02_DivMod [a1.v, b1.v] w19 [.one .slice, .one .slice] fun (s : Sl) (s1 : Sl) w20 =>
cl Pg F.zigguratref17_Nat [s.v] w20.drew [.agg [.slice, .bool]] fun (r4 : Sl) (r5 : Bool) w21 =>
cl Pg F.zigguratref17_Mul [.agg #[r4.v, .bool r5], .agg #[x11.v, .bool x12]] w21 [.agg [.slice, .bool]] fun (r6 : Sl) (r7 : Bool) w22 =>
cl Pg F.zigguratref17_Sub [.agg #[x0.v, .bool x01], .agg #[r6.v, .bool r7]] w22 [.agg [.slice, .bool]] fun (r8 : Sl) (r9 : Bool) w23 =>
nwv w23 fun w24 =>
nwv w24 fun w25 =>
cl Pg F.zigguratref17_Nat [s.v] w25.drew [.agg [.slice, .bool]] fun (r10 : Sl) (r11 : Bool) w26 =>
cl Pg F.zigguratref17_Mul [.agg #[r10.v, .bool r11], .agg #[y1.v, .bool y11]] w26 [.agg [.slice, .bool]] fun (r12 : Sl) (r13 : Bool) w27 =>
cl Pg F.zigguratref17_Sub [.agg #[y0.v, .bool y01], .agg #[r12.v, .bool r13]] w27 [.agg [.slice, .bool]] fun (r14 : Sl) (r15 : Bool) w28 =>
nwv w28 fun w29 =>
nwv w29 fun w30 =>
C0 b1 s1 x5 x6 x7 x8 x11 x12 y1 y11 r8 r9 r14 r15 w30) (
J1 a1 x5 x6 x7 x8 x0 x01 y0 y01 w19)) a b x1 x2 x3 x4 r r1 Sl.nil false Sl.nil false r2 r3 w17) fun (a2 : Sl) (_ : Sl) (_ : Bool) (_ : Sl) (_ : Bool) (x02 : Sl) (x03 : Bool) (y02 : Sl) (y03 : Bool) w31 =>
nwv w31.drew fun w32 =>
nwv w32 fun w33 =>
R (.tuple #[a2.v, .agg #[x02.v, .bool x03], .agg #[y02.v, .bool y03]]) w33)
theorem Ct.zigguratref17_Xgcd {a : Sl} {b : Sl} {w : TW} {X : Nat → Prop} {K : Tel (fl [.one .slice, .agg [.slice, .bool], .agg [.slice, .bool]]) (TW → Prop)} (h : Sh.zigguratref17_Xgcd a b (Rt X [.one .slice, .agg [.slice, .bool], .agg [.slice, .bool]] K w) w.here) : Ct Pg F.zigguratref17_Xgcd [a.v, b.v] w X [.one .slice, .agg [.slice, .bool], .agg [.slice, .bool]] K :=
 cod (Sh.zigguratref17_Xgcd a b) 53 [(5, 53), (6, 55), (7, 57), (8, 59), (9, 61), (10, 63)] [(53, 2), (55, 2), (57, 2), (59, 2), (61, 2), (63, 2)] [(0, 1, [(18, .one .bool), (53, .one .slice), (54, .one .bool), (55, .one .slice), (56, .one .bool)]), (2, 0, [(0, .one .slice), (53, .one .slice), (54, .one .bool), (55, .one .slice), (56, .one .bool), (57, .one .slice), (58, .one .bool), (59, .one .slice), (60, .one .bool)]), (3, 4, [(0, .one .slice), (1, .one .slice), (53, .one .slice), (54, .one .bool), (55, .one .slice), (56, .one .bool), (57, .one .slice), (58, .one .bool), (59, .one .slice), (60, .one .bool), (61, .one .slice), (62, .one .bool), (63, .one .slice), (64, .one .bool)])] Go.Proofs.Tryz.f32 (by kernel_rfl) (by kernel_rfl) (by kernel_rfl) (fun _ _ => by kernel_rfl) h
def Sh.zigguratref17_Coprime (l : Sl) (R : Value → TW → Prop) (w : TW) : Prop :=
Jn [] (fun J0 =>
Lp [.int .i64] (fun (i : Int) w1 C0 =>
cond (decide ((i : Int) < (l.n : Int))) (
Jn [] (fun J1 =>
Lp [.int .i64] (fun (k : Int) w2 C1 =>
cond (decide ((k : Int) < i)) (
ixa l i 1 fun a =>
ldc (.slice) w2.drew a fun (v : Sl) =>
ixa l k 1 fun a1 =>
ldc (.slice) w2.drew a1 fun (v1 : Sl) =>
cl Pg F.zigguratref02_From [v.v] w2.drew [.one .slice] fun (s : Sl) w3 =>
hld w3 [(a1, v1.v)] <|
cl Pg F.zigguratref02_From [v1.v] w3 [.one .slice] fun (s1 : Sl) w4 =>
cl Pg F.zigguratref02_Gcd [s.v, s1.v] w4 [.one .slice] fun (s2 : Sl) w5 =>
cl Pg F.zigguratref02_Small [.int .u64 1] w5 [.one .slice] fun (s3 : Sl) w6 =>
cl Pg F.zigguratref02_Cmp [s2.v, s3.v] w6 [.one (.int .i64)] fun (r : Int) w7 =>
cond ((r : Int) != 0) (
R (.bool false) w7) (
bnd (wi (k + 1)) fun n =>
C1 n w7)) (
J1 w2)) 0 w1) fun  w8 =>
bnd (wi (i + 1)) fun n1 =>
C0 n1 w8) (
J0 w1)) 0 w) fun  w9 =>
R (.bool true) w9
theorem Ct.zigguratref17_Coprime {l : Sl} {w : TW} {X : Nat → Prop} {K : Tel (fl [.one .bool]) (TW → Prop)} (h : Sh.zigguratref17_Coprime l (Rt X [.one .bool] K w) w.here) : Ct Pg F.zigguratref17_Coprime [l.v] w X [.one .bool] K :=
 cod (Sh.zigguratref17_Coprime l) 32 [] [] [(2, 0, []), (3, 2, [(3, .one (.int .i64))]), (2, 2, []), (3, 5, [(4, .one (.int .i64))])] Go.Proofs.Tryz.f52 (by kernel_rfl) (by kernel_rfl) (by kernel_rfl) (fun _ _ => by kernel_rfl) h
def Sh.zigguratref17_Add (a0 : Sl) (a1 : Bool) (b0 : Sl) (b1 : Bool) (R : Value → TW → Prop) (w : TW) : Prop :=
nwv w fun w1 =>
nwv w1 fun w2 =>
nwv w2 fun w3 =>
cond (a1 == b1) (
cl Pg F.zigguratref02_Add [a0.v, b0.v] w3.drew [.one .slice] fun (s : Sl) w4 =>
cl Pg F.zigguratref17_made [s.v, .bool a1] w4 [.agg [.slice, .bool]] fun (r : Sl) (r1 : Bool) w5 =>
nwv w5 fun w6 =>
R (.agg #[r.v, .bool r1]) w6) (
cl Pg F.zigguratref02_Cmp [a0.v, b0.v] w3 [.one (.int .i64)] fun (r2 : Int) w7 =>
cond (decide ((r2 : Int) ≥ 0)) (
cl Pg F.zigguratref02_Sub [a0.v, b0.v] w7.drew [.one .slice] fun (s1 : Sl) w8 =>
cl Pg F.zigguratref17_made [s1.v, .bool a1] w8 [.agg [.slice, .bool]] fun (r3 : Sl) (r4 : Bool) w9 =>
nwv w9 fun w10 =>
R (.agg #[r3.v, .bool r4]) w10) (
cl Pg F.zigguratref02_Sub [b0.v, a0.v] w7.drew [.one .slice] fun (s2 : Sl) w11 =>
cl Pg F.zigguratref17_made [s2.v, .bool b1] w11 [.agg [.slice, .bool]] fun (r5 : Sl) (r6 : Bool) w12 =>
nwv w12 fun w13 =>
R (.agg #[r5.v, .bool r6]) w13))
theorem Ct.zigguratref17_Add {a0 : Sl} {a1 : Bool} {b0 : Sl} {b1 : Bool} {w : TW} {X : Nat → Prop} {K : Tel (fl [.agg [.slice, .bool]]) (TW → Prop)} (h : Sh.zigguratref17_Add a0 a1 b0 b1 (Rt X [.agg [.slice, .bool]] K w) w.here) : Ct Pg F.zigguratref17_Add [.agg #[a0.v, .bool a1], .agg #[b0.v, .bool b1]] w X [.agg [.slice, .bool]] K :=
 cod (Sh.zigguratref17_Add a0 a1 b0 b1) 40 [(2, 40), (3, 42), (4, 44)] [(40, 2), (42, 2), (44, 2)] [] Go.Proofs.Tryz.f70 (by kernel_rfl) (by kernel_rfl) (by kernel_rfl) (fun _ _ => by kernel_rfl) h
def Sh.zigguratref17_Mul (a0 : Sl) (a1 : Bool) (b0 : Sl) (b1 : Bool) (R : Value → TW → Prop) (w : TW) : Prop :=
nwv w fun w1 =>
nwv w1 fun w2 =>
nwv w2 fun w3 =>
cl Pg F.zigguratref02_Mul [a0.v, b0.v] w3.drew [.one .slice] fun (s : Sl) w4 =>
cl Pg F.zigguratref17_made [s.v, .bool (!(a1 == b1))] w4 [.agg [.slice, .bool]] fun (r : Sl) (r1 : Bool) w5 =>
nwv w5 fun w6 =>
R (.agg #[r.v, .bool r1]) w6
theorem Ct.zigguratref17_Mul {a0 : Sl} {a1 : Bool} {b0 : Sl} {b1 : Bool} {w : TW} {X : Nat → Prop} {K : Tel (fl [.agg [.slice, .bool]]) (TW → Prop)} (h : Sh.zigguratref17_Mul a0 a1 b0 b1 (Rt X [.agg [.slice, .bool]] K w) w.here) : Ct Pg F.zigguratref17_Mul [.agg #[a0.v, .bool a1], .agg #[b0.v, .bool b1]] w X [.agg [.slice, .bool]] K :=
 cod (Sh.zigguratref17_Mul a0 a1 b0 b1) 16 [(2, 16), (3, 18), (4, 20)] [(16, 2), (18, 2), (20, 2)] [] Go.Proofs.Tryz.f71 (by kernel_rfl) (by kernel_rfl) (by kernel_rfl) (fun _ _ => by kernel_rfl) h
def Sh.zigguratref17_Inverse (a : Sl) (m : Sl) (R : Value → TW → Prop) (w : TW) : Prop :=
cl Pg F.zigguratref02_Mod [a.v, m.v] w [.one .slice] fun (s : Sl) w1 =>
cl Pg F.zigguratref17_Xgcd [s.v, m.v] w1 [.one .slice, .agg [.slice, .bool], .agg [.slice, .bool]] fun (s1 : Sl) (r : Sl) (r1 : Bool) (_ : Sl) (_ : Bool) w2 =>
nwv w2 fun w3 =>
nwv w3 fun w4 =>
nwv w4 fun w5 =>
nwv w5 fun w6 =>
cl Pg F.zigguratref02_Small [.int .u64 1] w6 [.one .slice] fun (s2 : Sl) w7 =>
cl Pg F.zigguratref02_Cmp [s1.v, s2.v] w7 [.one (.int .i64)] fun (r4 : Int) w8 =>
cond ((r4 : Int) != 0) (
R (.tuple #[.slice none 0 0, .bool false]) w8) (
cl Pg F.zigguratref17_Residue [.agg #[r.v, .bool r1], m.v] w8 [.one .slice] fun (s3 : Sl) w9 =>
R (.tuple #[s3.v, .bool true]) w9)
theorem Ct.zigguratref17_Inverse {a : Sl} {m : Sl} {w : TW} {X : Nat → Prop} {K : Tel (fl [.one .slice, .one .bool]) (TW → Prop)} (h : Sh.zigguratref17_Inverse a m (Rt X [.one .slice, .one .bool] K w) w.here) : Ct Pg F.zigguratref17_Inverse [a.v, m.v] w X [.one .slice, .one .bool] K :=
 cod (Sh.zigguratref17_Inverse a m) 25 [(7, 25), (8, 27)] [(25, 2), (27, 2)] [] Go.Proofs.Tryz.f76 (by kernel_rfl) (by kernel_rfl) (by kernel_rfl) (fun _ _ => by kernel_rfl) h
def Sh.zigguratref17_Residue (a0 : Sl) (a1 : Bool) (m : Sl) (R : Value → TW → Prop) (w : TW) : Prop :=
nwv w fun w1 =>
(cl Pg F.zigguratref17_Nat [m.v] w1.drew [.agg [.slice, .bool]] fun (r : Sl) (r1 : Bool) w2 =>
(cl Pg F.zigguratref17_Euclid [.agg #[a0.v, .bool a1], .agg #[r.v, .bool r1]] w2 [.agg [.slice, .bool], .agg [.slice, .bool]] fun (_ : Sl) (_ : Bool) (r4 : Sl) (_ : Bool) w3 =>
(nwv w3 fun w4 =>
nwv w4 fun w5 =>
nwv w5 fun w6 =>
nwv w6 fun w7 =>
R (r4.v) w7) ∧
(nwv w3 fun w8 =>
nwv w8 fun w9 =>
nwv w9 fun w10 =>
nwv w10 fun w11 =>
R (r4.v) w11)) ∧
(nwv w2 fun w12 =>
(cl Pg F.zigguratref17_Euclid [.agg #[a0.v, .bool a1], .agg #[r.v, .bool r1]] w12 [.agg [.slice, .bool], .agg [.slice, .bool]] fun (_ : Sl) (_ : Bool) (r8 : Sl) (_ : Bool) w13 =>
nwv w13 fun w14 =>
nwv w14 fun w15 =>
nwv w15 fun w16 =>
R (r8.v) w16) ∧
(nwv w12 fun w17 =>
cl Pg F.zigguratref17_Euclid [.agg #[a0.v, .bool a1], .agg #[r.v, .bool r1]] w17 [.agg [.slice, .bool], .agg [.slice, .bool]] fun (_ : Sl) (_ : Bool) (r12 : Sl) (_ : Bool) w18 =>
nwv w18 fun w19 =>
nwv w19 fun w20 =>
R (r12.v) w20)) ∧
(nwv w2 fun w21 =>
(cl Pg F.zigguratref17_Euclid [.agg #[a0.v, .bool a1], .agg #[r.v, .bool r1]] w21 [.agg [.slice, .bool], .agg [.slice, .bool]] fun (_ : Sl) (_ : Bool) (r16 : Sl) (_ : Bool) w22 =>
nwv w22 fun w23 =>
nwv w23 fun w24 =>
nwv w24 fun w25 =>
R (r16.v) w25) ∧
(nwv w21 fun w26 =>
cl Pg F.zigguratref17_Euclid [.agg #[a0.v, .bool a1], .agg #[r.v, .bool r1]] w26 [.agg [.slice, .bool], .agg [.slice, .bool]] fun (_ : Sl) (_ : Bool) (r20 : Sl) (_ : Bool) w27 =>
nwv w27 fun w28 =>
nwv w28 fun w29 =>
R (r20.v) w29))) ∧
(nwv w1.drew fun w30 =>
(cl Pg F.zigguratref17_Nat [m.v] w30 [.agg [.slice, .bool]] fun (r22 : Sl) (r23 : Bool) w31 =>
(cl Pg F.zigguratref17_Euclid [.agg #[a0.v, .bool a1], .agg #[r22.v, .bool r23]] w31 [.agg [.slice, .bool], .agg [.slice, .bool]] fun (_ : Sl) (_ : Bool) (r26 : Sl) (_ : Bool) w32 =>
nwv w32 fun w33 =>
nwv w33 fun w34 =>
nwv w34 fun w35 =>
R (r26.v) w35) ∧
(nwv w31 fun w36 =>
cl Pg F.zigguratref17_Euclid [.agg #[a0.v, .bool a1], .agg #[r22.v, .bool r23]] w36 [.agg [.slice, .bool], .agg [.slice, .bool]] fun (_ : Sl) (_ : Bool) (r30 : Sl) (_ : Bool) w37 =>
nwv w37 fun w38 =>
nwv w38 fun w39 =>
R (r30.v) w39)) ∧
(nwv w30 fun w40 =>
cl Pg F.zigguratref17_Nat [m.v] w40 [.agg [.slice, .bool]] fun (r32 : Sl) (r33 : Bool) w41 =>
cl Pg F.zigguratref17_Euclid [.agg #[a0.v, .bool a1], .agg #[r32.v, .bool r33]] w41 [.agg [.slice, .bool], .agg [.slice, .bool]] fun (_ : Sl) (_ : Bool) (r36 : Sl) (_ : Bool) w42 =>
nwv w42 fun w43 =>
nwv w43 fun w44 =>
R (r36.v) w44)) ∧
(nwv w1.drew fun w45 =>
(cl Pg F.zigguratref17_Nat [m.v] w45 [.agg [.slice, .bool]] fun (r38 : Sl) (r39 : Bool) w46 =>
(cl Pg F.zigguratref17_Euclid [.agg #[a0.v, .bool a1], .agg #[r38.v, .bool r39]] w46 [.agg [.slice, .bool], .agg [.slice, .bool]] fun (_ : Sl) (_ : Bool) (r42 : Sl) (_ : Bool) w47 =>
nwv w47 fun w48 =>
nwv w48 fun w49 =>
nwv w49 fun w50 =>
R (r42.v) w50) ∧
(nwv w46 fun w51 =>
cl Pg F.zigguratref17_Euclid [.agg #[a0.v, .bool a1], .agg #[r38.v, .bool r39]] w51 [.agg [.slice, .bool], .agg [.slice, .bool]] fun (_ : Sl) (_ : Bool) (r46 : Sl) (_ : Bool) w52 =>
nwv w52 fun w53 =>
nwv w53 fun w54 =>
R (r46.v) w54)) ∧
(nwv w45 fun w55 =>
cl Pg F.zigguratref17_Nat [m.v] w55 [.agg [.slice, .bool]] fun (r48 : Sl) (r49 : Bool) w56 =>
cl Pg F.zigguratref17_Euclid [.agg #[a0.v, .bool a1], .agg #[r48.v, .bool r49]] w56 [.agg [.slice, .bool], .agg [.slice, .bool]] fun (_ : Sl) (_ : Bool) (r52 : Sl) (_ : Bool) w57 =>
nwv w57 fun w58 =>
nwv w58 fun w59 =>
R (r52.v) w59))
theorem Ct.zigguratref17_Residue {a0 : Sl} {a1 : Bool} {m : Sl} {w : TW} {X : Nat → Prop} {K : Tel (fl [.one .slice]) (TW → Prop)} (h : Sh.zigguratref17_Residue a0 a1 m (Rt X [.one .slice] K w) w.here) : Ct Pg F.zigguratref17_Residue [.agg #[a0.v, .bool a1], m.v] w X [.one .slice] K :=
 cod (Sh.zigguratref17_Residue a0 a1 m) 16 [(2, 16), (5, 18), (6, 20)] [(16, 2), (18, 2), (20, 2)] [] Go.Proofs.Tryz.f80 (by kernel_rfl) (by kernel_rfl) (by kernel_rfl) (fun _ _ => by kernel_rfl) h
def Sh.zigguratref17_Crt (l : Sl) (R : Value → TW → Prop) (w : TW) : Prop :=
Jn [.slice] (fun J0 =>
Lp [.slice, .int .i64] (fun (ms : Sl) (i : Int) w1 C0 =>
cond (decide ((i : Int) < (l.n : Int))) (
ixa l i 2 fun a =>
ldc (.slice) w1 (a.add 1) fun (v : Sl) =>
cl Pg F.api_Nat_Zero [v.v] w1 [.one .bool] fun (ok : Bool) w2 =>
cond ok (
R (.tuple #[.slice none 0 0, .slice none 0 0, .int .i64 2]) w2) (
ixa l i 2 fun a1 =>
ldc (.slice) w2 (a1.add 1) fun (v1 : Sl) =>
nwb w2 [v1.v] T.api_Nat fun b w3 =>
apd w3 T.api_Nat 1 24 ms ⟨(some ⟨b, 0, none⟩), 1, 1⟩ fun s w4 =>
bnd (wi (i + 1)) fun n =>
C0 s n w4)) (
J0 ms w1)) Sl.nil 0 w) fun (ms1 : Sl) w5 =>
cl Pg F.zigguratref17_Coprime [ms1.v] w5 [.one .bool] fun (ok1 : Bool) w6 =>
cond (!ok1) (
R (.tuple #[.slice none 0 0, .slice none 0 0, .int .i64 4]) w6) (
cl Pg F.zigguratref02_Small [.int .u64 1] w6 [.one .slice] fun (s1 : Sl) w7 =>
Jn [.slice, .slice] (fun J1 =>
Lp [.slice, .slice, .int .i64] (fun (r : Sl) (m : Sl) (i1 : Int) w8 C1 =>
cond (decide ((i1 : Int) < (l.n : Int))) (
ixa l i1 2 fun a2 =>
ldc (.slice) w8 (a2.add 1) fun (v2 : Sl) =>
cl Pg F.zigguratref02_From [v2.v] w8 [.one .slice] fun (s2 : Sl) w9 =>
cl Pg F.zigguratref17_Inverse [m.v, s2.v] w9 [.one .slice, .one .bool] fun (s3 : Sl) (_ : Bool) w10 =>
ixa l i1 2 fun a3 =>
ldc (.slice) w10 a3 fun (v3 : Sl) =>
cl Pg F.zigguratref02_From [v3.v] w10 [.one .slice] fun (s4 : Sl) w11 =>
cl Pg F.zigguratref17_Nat [s4.v] w11 [.agg [.slice, .bool]] fun (r1 : Sl) (r2 : Bool) w12 =>
cl Pg F.zigguratref17_Nat [r.v] w12 [.agg [.slice, .bool]] fun (r3 : Sl) (r4 : Bool) w13 =>
cl Pg F.zigguratref17_Sub [.agg #[r1.v, .bool r2], .agg #[r3.v, .bool r4]] w13 [.agg [.slice, .bool]] fun (r5 : Sl) (r6 : Bool) w14 =>
cl Pg F.zigguratref17_Nat [s3.v] w14 [.agg [.slice, .bool]] fun (r7 : Sl) (r8 : Bool) w15 =>
cl Pg F.zigguratref17_Mul [.agg #[r5.v, .bool r6], .agg #[r7.v, .bool r8]] w15 [.agg [.slice, .bool]] fun (r9 : Sl) (r10 : Bool) w16 =>
cl Pg F.zigguratref17_Residue [.agg #[r9.v, .bool r10], s2.v] w16 [.one .slice] fun (s5 : Sl) w17 =>
cl Pg F.zigguratref02_Mul [m.v, s5.v] w17 [.one .slice] fun (s6 : Sl) w18 =>
cl Pg F.zigguratref02_Add [r.v, s6.v] w18 [.one .slice] fun (s7 : Sl) w19 =>
cl Pg F.zigguratref02_Mul [m.v, s2.v] w19 [.one .slice] fun (s8 : Sl) w20 =>
bnd (wi (i1 + 1)) fun n1 =>
C1 s7 s8 n1 w20) (
J1 r m w8)) Sl.nil s1 0 w7) fun (r11 : Sl) (m1 : Sl) w21 =>
R (.tuple #[r11.v, m1.v, .int .i64 0]) w21)
theorem Ct.zigguratref17_Crt {l : Sl} {w : TW} {X : Nat → Prop} {K : Tel (fl [.one .slice, .one .slice, .one (.int .i64)]) (TW → Prop)} (h : Sh.zigguratref17_Crt l (Rt X [.one .slice, .one .slice, .one (.int .i64)] K w) w.here) : Ct Pg F.zigguratref17_Crt [l.v] w X [.one .slice, .one .slice, .one (.int .i64)] K :=
 cod (Sh.zigguratref17_Crt l) 81 [] [] [(2, 0, [(5, .one .slice)]), (3, 3, [(5, .one .slice), (6, .one (.int .i64))]), (2, 2, [(7, .one .slice), (8, .one .slice)]), (3, 13, [(7, .one .slice), (8, .one .slice), (9, .one (.int .i64))])] Go.Proofs.Tryz.f83 (by kernel_rfl) (by kernel_rfl) (by kernel_rfl) (fun _ _ => by kernel_rfl) h
def Sh.zigguratref17_Small (n : Int) (R : Value → TW → Prop) (w : TW) : Prop :=
nwv w fun w1 =>
cond (decide ((n : Int) < 0)) (
bnd (wi (0 - n)) fun n1 =>
bnd (wu (n1)) fun n2 =>
cl Pg F.zigguratref02_Small [.int .u64 n2] w1 [.one .slice] fun (s : Sl) w2 =>
cl Pg F.zigguratref17_made [s.v, .bool true] w2 [.agg [.slice, .bool]] fun (r : Sl) (r1 : Bool) w3 =>
nwv w3 fun w4 =>
R (.agg #[r.v, .bool r1]) w4) (
bnd (wu (n)) fun n3 =>
cl Pg F.zigguratref02_Small [.int .u64 n3] w1 [.one .slice] fun (s1 : Sl) w5 =>
cl Pg F.zigguratref17_made [s1.v, .bool false] w5 [.agg [.slice, .bool]] fun (r2 : Sl) (r3 : Bool) w6 =>
nwv w6 fun w7 =>
R (.agg #[r2.v, .bool r3]) w7)
theorem Ct.zigguratref17_Small {n : Int} {w : TW} {X : Nat → Prop} {K : Tel (fl [.agg [.slice, .bool]]) (TW → Prop)} (h : Sh.zigguratref17_Small n (Rt X [.agg [.slice, .bool]] K w) w.here) : Ct Pg F.zigguratref17_Small [.int .i64 n] w X [.agg [.slice, .bool]] K :=
 cod (Sh.zigguratref17_Small n) 14 [(2, 14)] [(14, 2)] [] Go.Proofs.Tryz.f103 (by kernel_rfl) (by kernel_rfl) (by kernel_rfl) (fun _ _ => by kernel_rfl) h
def Sh.zigguratref17_Sub (a0 : Sl) (a1 : Bool) (b0 : Sl) (b1 : Bool) (R : Value → TW → Prop) (w : TW) : Prop :=
nwv w fun w1 =>
nwv w1 fun w2 =>
nwv w2 fun w3 =>
cl Pg F.zigguratref17_Neg [.agg #[b0.v, .bool b1]] w3.drew [.agg [.slice, .bool]] fun (r : Sl) (r1 : Bool) w4 =>
cl Pg F.zigguratref17_Add [.agg #[a0.v, .bool a1], .agg #[r.v, .bool r1]] w4 [.agg [.slice, .bool]] fun (r2 : Sl) (r3 : Bool) w5 =>
nwv w5 fun w6 =>
R (.agg #[r2.v, .bool r3]) w6
theorem Ct.zigguratref17_Sub {a0 : Sl} {a1 : Bool} {b0 : Sl} {b1 : Bool} {w : TW} {X : Nat → Prop} {K : Tel (fl [.agg [.slice, .bool]]) (TW → Prop)} (h : Sh.zigguratref17_Sub a0 a1 b0 b1 (Rt X [.agg [.slice, .bool]] K w) w.here) : Ct Pg F.zigguratref17_Sub [.agg #[a0.v, .bool a1], .agg #[b0.v, .bool b1]] w X [.agg [.slice, .bool]] K :=
 cod (Sh.zigguratref17_Sub a0 a1 b0 b1) 9 [(2, 9), (3, 11), (4, 13)] [(9, 2), (11, 2), (13, 2)] [] Go.Proofs.Tryz.f104 (by kernel_rfl) (by kernel_rfl) (by kernel_rfl) (fun _ _ => by kernel_rfl) h
def Sh.zigguratref17_Nat (n : Sl) (R : Value → TW → Prop) (w : TW) : Prop :=
nwv w fun w1 =>
nwv w1 fun w2 =>
R (.agg #[n.v, .bool false]) w2
theorem Ct.zigguratref17_Nat {n : Sl} {w : TW} {X : Nat → Prop} {K : Tel (fl [.agg [.slice, .bool]]) (TW → Prop)} (h : Sh.zigguratref17_Nat n (Rt X [.agg [.slice, .bool]] K w) w.here) : Ct Pg F.zigguratref17_Nat [n.v] w X [.agg [.slice, .bool]] K :=
 cod (Sh.zigguratref17_Nat n) 5 [(2, 5)] [(5, 2)] [] Go.Proofs.Tryz.f105 (by kernel_rfl) (by kernel_rfl) (by kernel_rfl) (fun _ _ => by kernel_rfl) h
def Sh.zigguratref17_made (n : Sl) (neg : Bool) (R : Value → TW → Prop) (w : TW) : Prop :=
nwv w fun w1 =>
Jn [.slice, .bool] (fun J0 =>
cond neg (
cl Pg F.zigguratref02_Zero [n.v] w1 [.one .bool] fun (ok : Bool) w2 =>
nwv w2 fun w3 =>
J0 n (!ok) w3) (
nwv w1 fun w4 =>
J0 n false w4)) fun (x : Sl) (x1 : Bool) w5 =>
R (.agg #[x.v, .bool x1]) w5
theorem Ct.zigguratref17_made {n : Sl} {neg : Bool} {w : TW} {X : Nat → Prop} {K : Tel (fl [.agg [.slice, .bool]]) (TW → Prop)} (h : Sh.zigguratref17_made n neg (Rt X [.agg [.slice, .bool]] K w) w.here) : Ct Pg F.zigguratref17_made [n.v, .bool neg] w X [.agg [.slice, .bool]] K :=
 cod (Sh.zigguratref17_made n neg) 13 [(4, 13)] [(13, 2)] [(0, 1, [(13, .one .slice), (14, .one .bool)])] Go.Proofs.Tryz.f124 (by kernel_rfl) (by kernel_rfl) (by kernel_rfl) (fun _ _ => by kernel_rfl) h
def Sh.zigguratref17_Euclid (a0 : Sl) (a1 : Bool) (b0 : Sl) (b1 : Bool) (R : Value → TW → Prop) (w : TW) : Prop :=
nwv w fun w1 =>
nwv w1 fun w2 =>
nwv w2 fun w3 =>
nwv w3 fun w4 =>
cl Pg F.zigguratref17_Trunc [.agg #[a0.v, .bool a1], .agg #[b0.v, .bool b1]] w4 [.agg [.slice, .bool], .agg [.slice, .bool]] fun (r : Sl) (r1 : Bool) (r2 : Sl) (r3 : Bool) w5 =>
nwv w5 fun w6 =>
nwv w6 fun w7 =>
nwv w7 fun w8 =>
nwv w8 fun w9 =>
cond (!r3) (
nwv w9.drew fun w10 =>
nwv w10 fun w11 =>
R (.tuple #[.agg #[r.v, .bool r1], .agg #[r2.v, .bool r3]]) w11) (
cond b1 (
cl Pg F.zigguratref17_Small [.int .i64 1] w9.drew [.agg [.slice, .bool]] fun (r4 : Sl) (r5 : Bool) w12 =>
cl Pg F.zigguratref17_Add [.agg #[r.v, .bool r1], .agg #[r4.v, .bool r5]] w12 [.agg [.slice, .bool]] fun (r6 : Sl) (r7 : Bool) w13 =>
cl Pg F.zigguratref17_Sub [.agg #[r2.v, .bool r3], .agg #[b0.v, .bool b1]] w13 [.agg [.slice, .bool]] fun (r8 : Sl) (r9 : Bool) w14 =>
nwv w14 fun w15 =>
nwv w15 fun w16 =>
R (.tuple #[.agg #[r6.v, .bool r7], .agg #[r8.v, .bool r9]]) w16) (
cl Pg F.zigguratref17_Small [.int .i64 1] w9.drew [.agg [.slice, .bool]] fun (r10 : Sl) (r11 : Bool) w17 =>
cl Pg F.zigguratref17_Sub [.agg #[r.v, .bool r1], .agg #[r10.v, .bool r11]] w17 [.agg [.slice, .bool]] fun (r12 : Sl) (r13 : Bool) w18 =>
cl Pg F.zigguratref17_Add [.agg #[r2.v, .bool r3], .agg #[b0.v, .bool b1]] w18 [.agg [.slice, .bool]] fun (r14 : Sl) (r15 : Bool) w19 =>
nwv w19 fun w20 =>
nwv w20 fun w21 =>
R (.tuple #[.agg #[r12.v, .bool r13], .agg #[r14.v, .bool r15]]) w21))
theorem Ct.zigguratref17_Euclid {a0 : Sl} {a1 : Bool} {b0 : Sl} {b1 : Bool} {w : TW} {X : Nat → Prop} {K : Tel (fl [.agg [.slice, .bool], .agg [.slice, .bool]]) (TW → Prop)} (h : Sh.zigguratref17_Euclid a0 a1 b0 b1 (Rt X [.agg [.slice, .bool], .agg [.slice, .bool]] K w) w.here) : Ct Pg F.zigguratref17_Euclid [.agg #[a0.v, .bool a1], .agg #[b0.v, .bool b1]] w X [.agg [.slice, .bool], .agg [.slice, .bool]] K :=
 cod (Sh.zigguratref17_Euclid a0 a1 b0 b1) 33 [(2, 33), (3, 35), (4, 37), (5, 39), (6, 41), (7, 43)] [(33, 2), (35, 2), (37, 2), (39, 2), (41, 2), (43, 2)] [] Go.Proofs.Tryz.f125 (by kernel_rfl) (by kernel_rfl) (by kernel_rfl) (fun _ _ => by kernel_rfl) h
def Sh.zigguratref17_Neg (a0 : Sl) (a1 : Bool) (R : Value → TW → Prop) (w : TW) : Prop :=
nwv w fun w1 =>
nwv w1 fun w2 =>
cl Pg F.zigguratref17_made [a0.v, .bool (!a1)] w2 [.agg [.slice, .bool]] fun (r : Sl) (r1 : Bool) w3 =>
nwv w3 fun w4 =>
R (.agg #[r.v, .bool r1]) w4
theorem Ct.zigguratref17_Neg {a0 : Sl} {a1 : Bool} {w : TW} {X : Nat → Prop} {K : Tel (fl [.agg [.slice, .bool]]) (TW → Prop)} (h : Sh.zigguratref17_Neg a0 a1 (Rt X [.agg [.slice, .bool]] K w) w.here) : Ct Pg F.zigguratref17_Neg [.agg #[a0.v, .bool a1]] w X [.agg [.slice, .bool]] K :=
 cod (Sh.zigguratref17_Neg a0 a1) 9 [(1, 9), (2, 11)] [(9, 2), (11, 2)] [] Go.Proofs.Tryz.f137 (by kernel_rfl) (by kernel_rfl) (by kernel_rfl) (fun _ _ => by kernel_rfl) h
def Sh.zigguratref17_Trunc (a0 : Sl) (a1 : Bool) (b0 : Sl) (b1 : Bool) (R : Value → TW → Prop) (w : TW) : Prop :=
nwv w fun w1 =>
nwv w1 fun w2 =>
nwv w2 fun w3 =>
nwv w3 fun w4 =>
cl Pg F.zigguratref02_DivMod [a0.v, b0.v] w4 [.one .slice, .one .slice] fun (s : Sl) (s1 : Sl) w5 =>
cl Pg F.zigguratref17_made [s.v, .bool (!(a1 == b1))] w5.drew [.agg [.slice, .bool]] fun (r : Sl) (r1 : Bool) w6 =>
cl Pg F.zigguratref17_made [s1.v, .bool a1] w6 [.agg [.slice, .bool]] fun (r2 : Sl) (r3 : Bool) w7 =>
nwv w7 fun w8 =>
nwv w8 fun w9 =>
R (.tuple #[.agg #[r.v, .bool r1], .agg #[r2.v, .bool r3]]) w9
theorem Ct.zigguratref17_Trunc {a0 : Sl} {a1 : Bool} {b0 : Sl} {b1 : Bool} {w : TW} {X : Nat → Prop} {K : Tel (fl [.agg [.slice, .bool], .agg [.slice, .bool]]) (TW → Prop)} (h : Sh.zigguratref17_Trunc a0 a1 b0 b1 (Rt X [.agg [.slice, .bool], .agg [.slice, .bool]] K w) w.here) : Ct Pg F.zigguratref17_Trunc [.agg #[a0.v, .bool a1], .agg #[b0.v, .bool b1]] w X [.agg [.slice, .bool], .agg [.slice, .bool]] K :=
 cod (Sh.zigguratref17_Trunc a0 a1 b0 b1) 27 [(2, 27), (3, 29), (4, 31), (5, 33)] [(27, 2), (29, 2), (31, 2), (33, 2)] [] Go.Proofs.Tryz.f147 (by kernel_rfl) (by kernel_rfl) (by kernel_rfl) (fun _ _ => by kernel_rfl) h
end Go.Proofs.YticehedkalheiaaGreatDoor.Zg
end
