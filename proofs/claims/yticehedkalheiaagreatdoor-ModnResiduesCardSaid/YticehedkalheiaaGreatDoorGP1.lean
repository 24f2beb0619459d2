/- A part of the proofs of this seat's laws: words, lemmas or contracts of its functions. -/
import Derived.Test.YticehedkalheiaaGreatDoorGC
set_option linter.unusedVariables false
set_option linter.unusedSimpArgs false
set_option linter.unnecessarySimpa false
section
set_option maxRecDepth 100000
namespace Go.Proofs.YticehedkalheiaaGreatDoor.Zg
def Sh.gcd_New (t : HL [.int .i64, .int .i64, .int .i64, .int .i64, .int .i64, .int .i64, .int .i64, .int .i64, .int .i64, .int .i64, .int .i64]) (R : Value → TW → Prop) (w : TW) : Prop :=
nwv w fun w1 =>
cl Pg F.power_New [.agg #[.int .i64 t.1, .int .i64 t.2.1, .int .i64 t.2.2.1, .int .i64 t.2.2.2.1, .int .i64 t.2.2.2.2.1, .int .i64 t.2.2.2.2.2.1, .int .i64 t.2.2.2.2.2.2.1, .int .i64 t.2.2.2.2.2.2.2.1, .int .i64 t.2.2.2.2.2.2.2.2.1, .int .i64 t.2.2.2.2.2.2.2.2.2.1, .int .i64 t.2.2.2.2.2.2.2.2.2.2.1]] w1 [.one .ptr] fun (p : Option Addr) w2 =>
nwb w2 [.pointer p] T.gcd_Engine fun b w3 =>
R (.pointer (some ⟨b, 0, none⟩)) w3
theorem Ct.gcd_New {t : HL [.int .i64, .int .i64, .int .i64, .int .i64, .int .i64, .int .i64, .int .i64, .int .i64, .int .i64, .int .i64, .int .i64]} {w : TW} {X : Nat → Prop} {K : Tel (fl [.one .ptr]) (TW → Prop)} (h : Sh.gcd_New t (Rt X [.one .ptr] K w) w.here) : Ct Pg F.gcd_New [.agg (encs [.int .i64, .int .i64, .int .i64, .int .i64, .int .i64, .int .i64, .int .i64, .int .i64, .int .i64, .int .i64, .int .i64] t).toArray] w X [.one .ptr] K :=
 cod (Sh.gcd_New t) 7 [(1, 7)] [(7, 11)] [] Go.Proofs.Tryz.f41 (by kernel_rfl) (by kernel_rfl) (by kernel_rfl) (fun _ _ => by kernel_rfl) h
def Sh.gcd_Engine_Lehmer (e0 : Option Addr) (a : Sl) (b : Sl) (R : Value → TW → Prop) (w : TW) : Prop :=
cl Pg F.limb_Norm [a.v] w [.one .slice] fun (s : Sl) w1 =>
cl Pg F.limb_Norm [b.v] w1 [.one .slice] fun (s1 : Sl) w2 =>
cl Pg F.limb_Cmp [s.v, s1.v] w2 [.one (.int .i64)] fun (r : Int) w3 =>
Jn [.slice, .slice] (fun J0 =>
cond (decide ((r : Int) < 0)) (
J0 s1 s w3) (
J0 s s1 w3)) fun (a1 : Sl) (b1 : Sl) w4 =>
Jn [.slice] (fun J1 =>
Lp [.slice, .slice] (fun (a2 : Sl) (b2 : Sl) w5 C0 =>
cond (decide (((b2.n : Int) : Int) > 0)) (
Jn [.slice, .slice] (fun J2 =>
cl Pg F.lead_Find [a2.v, b2.v] w5 [.agg [.int .u64, .int .u64, .int .u64, .int .u64, .int .i64]] fun (r1 : Int) (r2 : Int) (r3 : Int) (r4 : Int) (r5 : Int) w6 =>
nwv w6 fun w7 =>
nwv w7 fun w8 =>
cond (decide ((r5 : Int) > 0)) (
cl Pg F.lead_Row_Apply [.agg #[.int .u64 r1, .int .u64 r2, .int .u64 r3, .int .u64 r4, .int .i64 r5], a2.v, b2.v] w8 [.one .slice, .one .slice] fun (s2 : Sl) (s3 : Sl) w9 =>
J2 s2 s3 w9) (
nck e0 fun a3 =>
ldc (.ptr) w8 a3 fun (v : Option Addr) =>
nck v fun a4 =>
ldc (.ptr) w8 a4 fun (v1 : Option Addr) =>
nck v1 fun a5 =>
ldc (.ptr) w8 a5 fun (v2 : Option Addr) =>
nck v2 fun a6 =>
ldc (.ptr) w8 a6 fun (v3 : Option Addr) =>
nck v3 fun a7 =>
ldc (.ptr) w8 a7 fun (v4 : Option Addr) =>
cl Pg F.div_Engine_DivMod [.pointer v4, a2.v, b2.v] w8 [.one .slice, .one .slice, .one (.int .i64)] fun (_ : Sl) (s5 : Sl) (_ : Int) w10 =>
J2 b2 s5 w10)) fun (a8 : Sl) (b3 : Sl) w11 =>
C0 a8 b3 w11) (
J1 a2 w5)) a1 b1 w4) fun (a9 : Sl) w12 =>
R (a9.v) w12
theorem Ct.gcd_Engine_Lehmer {e0 : Option Addr} {a : Sl} {b : Sl} {w : TW} {X : Nat → Prop} {K : Tel (fl [.one .slice]) (TW → Prop)} (h : Sh.gcd_Engine_Lehmer e0 a b (Rt X [.one .slice] K w) w.here) : Ct Pg F.gcd_Engine_Lehmer [.pointer e0, a.v, b.v] w X [.one .slice] K :=
 cod (Sh.gcd_Engine_Lehmer e0 a b) 63 [(7, 63)] [(63, 5)] [(1, 3, [(1, .one .slice), (2, .one .slice)]), (2, 0, [(1, .one .slice)]), (3, 4, [(1, .one .slice), (2, .one .slice)]), (2, 1, [(1, .one .slice), (2, .one .slice)])] Go.Proofs.Tryz.f44 (by kernel_rfl) (by kernel_rfl) (by kernel_rfl) (fun _ _ => by kernel_rfl) h
def Sh.gcd_Engine_Binary (e0 : Option Addr) (a : Sl) (b : Sl) (R : Value → TW → Prop) (w : TW) : Prop :=
cl Pg F.api_Nat_Zero [a.v] w [.one .bool] fun (ok : Bool) w1 =>
cond ok (
cl Pg F.limb_Norm [b.v] w1 [.one .slice] fun (s : Sl) w2 =>
R (s.v) w2) (
cl Pg F.api_Nat_Zero [b.v] w1 [.one .bool] fun (ok1 : Bool) w3 =>
cond ok1 (
cl Pg F.limb_Norm [a.v] w3 [.one .slice] fun (s1 : Sl) w4 =>
R (s1.v) w4) (
cl Pg F.gcd_twos [a.v] w3 [.one (.int .i64)] fun (r : Int) w5 =>
cl Pg F.gcd_twos [b.v] w5 [.one (.int .i64)] fun (r1 : Int) w6 =>
cl Pg F.limb_Shr [a.v, .int .i64 r] w6 [.one .slice] fun (s2 : Sl) w7 =>
cl Pg F.limb_Shr [b.v, .int .i64 r1] w7 [.one .slice] fun (s3 : Sl) w8 =>
Lp [.slice, .slice] (fun (a1 : Sl) (b1 : Sl) w9 C0 =>
cl Pg F.limb_Cmp [a1.v, b1.v] w9 [.one (.int .i64)] fun (r2 : Int) w10 =>
cond ((r2 : Int) == 0) (
bnd (if (r1 : Int) < r then r1 else r) fun n =>
cl Pg F.limb_Shl [a1.v, .int .i64 n] w10 [.one .slice] fun (s4 : Sl) w11 =>
R (s4.v) w11) (
Jn [.slice, .slice] (fun J0 =>
cond (decide ((r2 : Int) < 0)) (
J0 b1 a1 w10) (
J0 a1 b1 w10)) fun (a2 : Sl) (b2 : Sl) w12 =>
cl Pg F.limb_Sub [a2.v, b2.v] w12 [.one .slice, .one .bool] fun (s5 : Sl) (_ : Bool) w13 =>
cl Pg F.gcd_twos [s5.v] w13 [.one (.int .i64)] fun (r3 : Int) w14 =>
cl Pg F.limb_Shr [s5.v, .int .i64 r3] w14 [.one .slice] fun (s6 : Sl) w15 =>
C0 s6 b2 w15)) s2 s3 w8))
theorem Ct.gcd_Engine_Binary {e0 : Option Addr} {a : Sl} {b : Sl} {w : TW} {X : Nat → Prop} {K : Tel (fl [.one .slice]) (TW → Prop)} (h : Sh.gcd_Engine_Binary e0 a b (Rt X [.one .slice] K w) w.here) : Ct Pg F.gcd_Engine_Binary [.pointer e0, a.v, b.v] w X [.one .slice] K :=
 cod (Sh.gcd_Engine_Binary e0 a b) 52 [] [] [(3, 7, [(1, .one .slice), (2, .one .slice)]), (1, 11, [(1, .one .slice), (2, .one .slice)])] Go.Proofs.Tryz.f45 (by kernel_rfl) (by kernel_rfl) (by kernel_rfl) (fun _ _ => by kernel_rfl) h
def Sh.gcd_Engine_Gcd (e0 : Option Addr) (l : Sl) (R : Value → TW → Prop) (w : TW) : Prop :=
Jn [.slice] (fun J0 =>
Lp [.slice, .int .i64] (fun (g : Sl) (x : Int) w1 C0 =>
cond (decide ((x : Int) < (l.n : Int))) (
ixa l x 1 fun a =>
ldc (.slice) w1 a fun (v : Sl) =>
cl Pg F.gcd_Engine_two [.pointer e0, g.v, v.v] w1 [.one .slice] fun (s : Sl) w2 =>
bnd (wi (x + 1)) fun n =>
C0 s n w2) (
J0 g w1)) Sl.nil 0 w) fun (g1 : Sl) w3 =>
R (g1.v) w3
theorem Ct.gcd_Engine_Gcd {e0 : Option Addr} {l : Sl} {w : TW} {X : Nat → Prop} {K : Tel (fl [.one .slice]) (TW → Prop)} (h : Sh.gcd_Engine_Gcd e0 l (Rt X [.one .slice] K w) w.here) : Ct Pg F.gcd_Engine_Gcd [.pointer e0, l.v] w X [.one .slice] K :=
 cod (Sh.gcd_Engine_Gcd e0 l) 20 [] [] [(2, 0, [(5, .one .slice)]), (3, 3, [(5, .one .slice), (10, .one (.int .i64))])] Go.Proofs.Tryz.f46 (by kernel_rfl) (by kernel_rfl) (by kernel_rfl) (fun _ _ => by kernel_rfl) h
def Sh.gcd_twos (a : Sl) (R : Value → TW → Prop) (w : TW) : Prop :=
Jn [.int .i64] (fun J0 =>
Lp [.int .i64] (fun (k : Int) w1 C0 =>
ixa a k 1 fun a1 =>
ldc (.int .u64) w1 a1 fun (v : Int) =>
cond ((v : Int) == 0) (
bnd (wi (k + 1)) fun n =>
C0 n w1) (
J0 k w1)) 0 w) fun (k1 : Int) w2 =>
bnd (wi (64 * k1)) fun n1 =>
ixa a k1 1 fun a2 =>
ldc (.int .u64) w2 a2 fun (v1 : Int) =>
cl Pg F.bits_TrailingZeros64 [.int .u64 v1] w2 [.one (.int .i64)] fun (r : Int) w3 =>
bnd (wi (n1 + r)) fun n2 =>
R (.int .i64 n2) w3
theorem Ct.gcd_twos {a : Sl} {w : TW} {X : Nat → Prop} {K : Tel (fl [.one (.int .i64)]) (TW → Prop)} (h : Sh.gcd_twos a (Rt X [.one (.int .i64)] K w) w.here) : Ct Pg F.gcd_twos [a.v] w X [.one (.int .i64)] K :=
 cod (Sh.gcd_twos a) 19 [] [] [(2, 0, [(3, .one (.int .i64))]), (3, 2, [(3, .one (.int .i64))])] Go.Proofs.Tryz.f114 (by kernel_rfl) (by kernel_rfl) (by kernel_rfl) (fun _ _ => by kernel_rfl) h
def Sh.gcd_Engine_two (e0 : Option Addr) (a : Sl) (b : Sl) (R : Value → TW → Prop) (w : TW) : Prop :=
Jn [.bool] (fun J0 =>
nck e0 fun a1 =>
ldc (.ptr) w.drew a1 fun (v : Option Addr) =>
nck v fun a2 =>
ldc (.ptr) w.drew a2 fun (v1 : Option Addr) =>
nck v1 fun a3 =>
ldc (.ptr) w.drew a3 fun (v2 : Option Addr) =>
nck v2 fun a4 =>
ldc (.ptr) w.drew a4 fun (v3 : Option Addr) =>
nck v3 fun a5 =>
ldc (.ptr) w.drew a5 fun (v4 : Option Addr) =>
nck v4 fun a6 =>
ldc (.ptr) w.drew a6 fun (v5 : Option Addr) =>
nck v5 fun a7 =>
ldc (.ptr) w.drew a7 fun (v6 : Option Addr) =>
nck v6 fun a8 =>
ldc (.ptr) w.drew a8 fun (v7 : Option Addr) =>
nck v7 fun a9 =>
ldc (.ptr) w.drew a9 fun (v8 : Option Addr) =>
nck v8 fun a10 =>
ldc (.ptr) w.drew a10 fun (v9 : Option Addr) =>
nck v9 fun a11 =>
ldc (.ptr) w.drew a11 fun (v10 : Option Addr) =>
nck v10 fun a12 =>
ldc (.ptr) w.drew a12 fun (v11 : Option Addr) =>
nck v11 fun a13 =>
ldc (.int .i64) w.drew ((a13.add 3).add 5) fun (v12 : Int) =>
cl Pg F.api_Nat_Len [a.v] w.drew [.one (.int .i64)] fun (r : Int) w1 =>
hld w1 [(((a13.add 3).add 5), .int .i64 v12), (a12, .pointer v11), (a11, .pointer v10), (a10, .pointer v9), (a9, .pointer v8), (a8, .pointer v7), (a7, .pointer v6), (a6, .pointer v5), (a5, .pointer v4), (a4, .pointer v3), (a3, .pointer v2), (a2, .pointer v1), (a1, .pointer v)] <|
cond (decide ((r : Int) ≥ v12)) (
nck e0 fun a14 =>
ldc (.ptr) w1 a14 fun (v13 : Option Addr) =>
nck v13 fun a15 =>
ldc (.ptr) w1 a15 fun (v14 : Option Addr) =>
nck v14 fun a16 =>
ldc (.ptr) w1 a16 fun (v15 : Option Addr) =>
nck v15 fun a17 =>
ldc (.ptr) w1 a17 fun (v16 : Option Addr) =>
nck v16 fun a18 =>
ldc (.ptr) w1 a18 fun (v17 : Option Addr) =>
nck v17 fun a19 =>
ldc (.ptr) w1 a19 fun (v18 : Option Addr) =>
nck v18 fun a20 =>
ldc (.ptr) w1 a20 fun (v19 : Option Addr) =>
nck v19 fun a21 =>
ldc (.ptr) w1 a21 fun (v20 : Option Addr) =>
nck v20 fun a22 =>
ldc (.ptr) w1 a22 fun (v21 : Option Addr) =>
nck v21 fun a23 =>
ldc (.ptr) w1 a23 fun (v22 : Option Addr) =>
nck v22 fun a24 =>
ldc (.ptr) w1 a24 fun (v23 : Option Addr) =>
nck v23 fun a25 =>
ldc (.ptr) w1 a25 fun (v24 : Option Addr) =>
nck v24 fun a26 =>
ldc (.int .i64) w1 ((a26.add 3).add 5) fun (v25 : Int) =>
cl Pg F.api_Nat_Len [b.v] w1 [.one (.int .i64)] fun (r1 : Int) w2 =>
hld w2 [(((a26.add 3).add 5), .int .i64 v25), (a25, .pointer v24), (a24, .pointer v23), (a23, .pointer v22), (a22, .pointer v21), (a21, .pointer v20), (a20, .pointer v19), (a19, .pointer v18), (a18, .pointer v17), (a17, .pointer v16), (a16, .pointer v15), (a15, .pointer v14), (a14, .pointer v13), (((a13.add 3).add 5), .int .i64 v12), (a12, .pointer v11), (a11, .pointer v10), (a10, .pointer v9), (a9, .pointer v8), (a8, .pointer v7), (a7, .pointer v6), (a6, .pointer v5), (a5, .pointer v4), (a4, .pointer v3), (a3, .pointer v2), (a2, .pointer v1), (a1, .pointer v)] <|
J0 (decide ((r1 : Int) ≥ v25)) w2) (
J0 false w1)) fun (x : Bool) w3 =>
cond x (
cl Pg F.gcd_Engine_Lehmer [.pointer e0, a.v, b.v] w3 [.one .slice] fun (s : Sl) w4 =>
R (s.v) w4) (
cl Pg F.gcd_Engine_Binary [.pointer e0, a.v, b.v] w3 [.one .slice] fun (s1 : Sl) w5 =>
R (s1.v) w5)
theorem Ct.gcd_Engine_two {e0 : Option Addr} {a : Sl} {b : Sl} {w : TW} {X : Nat → Prop} {K : Tel (fl [.one .slice]) (TW → Prop)} (h : Sh.gcd_Engine_two e0 a b (Rt X [.one .slice] K w) w.here) : Ct Pg F.gcd_Engine_two [.pointer e0, a.v, b.v] w X [.one .slice] K :=
 cod (Sh.gcd_Engine_two e0 a b) 105 [] [] [(0, 1, [(96, .one .bool)])] Go.Proofs.Tryz.f118 (by kernel_rfl) (by kernel_rfl) (by kernel_rfl) (fun _ _ => by kernel_rfl) h
end Go.Proofs.YticehedkalheiaaGreatDoor.Zg
end

section
set_option maxRecDepth 100000
namespace Go.Proofs.YticehedkalheiaaGreatDoor.Zg
def Sh.hgcd_New (t : HL [.int .i64, .int .i64, .int .i64, .int .i64, .int .i64, .int .i64, .int .i64, .int .i64, .int .i64, .int .i64, .int .i64]) (R : Value → TW → Prop) (w : TW) : Prop :=
nwv w fun w1 =>
cl Pg F.gcd_New [.agg #[.int .i64 t.1, .int .i64 t.2.1, .int .i64 t.2.2.1, .int .i64 t.2.2.2.1, .int .i64 t.2.2.2.2.1, .int .i64 t.2.2.2.2.2.1, .int .i64 t.2.2.2.2.2.2.1, .int .i64 t.2.2.2.2.2.2.2.1, .int .i64 t.2.2.2.2.2.2.2.2.1, .int .i64 t.2.2.2.2.2.2.2.2.2.1, .int .i64 t.2.2.2.2.2.2.2.2.2.2.1]] w1 [.one .ptr] fun (p : Option Addr) w2 =>
nwb w2 [.pointer p] T.hgcd_Engine fun b w3 =>
R (.pointer (some ⟨b, 0, none⟩)) w3
theorem Ct.hgcd_New {t : HL [.int .i64, .int .i64, .int .i64, .int .i64, .int .i64, .int .i64, .int .i64, .int .i64, .int .i64, .int .i64, .int .i64]} {w : TW} {X : Nat → Prop} {K : Tel (fl [.one .ptr]) (TW → Prop)} (h : Sh.hgcd_New t (Rt X [.one .ptr] K w) w.here) : Ct Pg F.hgcd_New [.agg (encs [.int .i64, .int .i64, .int .i64, .int .i64, .int .i64, .int .i64, .int .i64, .int .i64, .int .i64, .int .i64, .int .i64] t).toArray] w X [.one .ptr] K :=
 cod (Sh.hgcd_New t) 7 [(1, 7)] [(7, 11)] [] Go.Proofs.Tryz.f22 (by kernel_rfl) (by kernel_rfl) (by kernel_rfl) (fun _ _ => by kernel_rfl) h
def Sh.hgcd_Engine_Steps (e0 : Option Addr) (a : Sl) (b : Sl) (k : Int) (R : Value → TW → Prop) (w : TW) : Prop :=
nwv w fun w1 =>
cl Pg F.hgcd_Unit [] w1 [.agg [.slice, .slice, .slice, .slice]] fun (r : Sl) (r1 : Sl) (r2 : Sl) (r3 : Sl) w2 =>
cl Pg F.limb_Norm [a.v] w2 [.one .slice] fun (s : Sl) w3 =>
cl Pg F.limb_Norm [b.v] w3 [.one .slice] fun (s1 : Sl) w4 =>
nwv w4 fun w5 =>
bnd (if (0 : Int) > k then 0 else k) fun n =>
Jn [.slice, .slice, .int .i64, .slice, .slice, .slice, .slice] (fun J0 =>
Lp [.slice, .slice, .int .i64, .slice, .slice, .slice, .slice] (fun (c : Sl) (d : Sl) (n1 : Int) (m : Sl) (m1 : Sl) (m2 : Sl) (m3 : Sl) w6 C0 =>
cl Pg F.api_Nat_Bits [d.v] w6 [.one (.int .i64)] fun (r4 : Int) w7 =>
cond (decide ((r4 : Int) > n)) (
Jn [.slice, .slice, .int .i64, .slice, .slice, .slice, .slice] (fun J1 =>
cl Pg F.limb_Cmp [c.v, d.v] w7 [.one (.int .i64)] fun (r5 : Int) w8 =>
Jn [.slice, .slice, .int .i64, .slice, .slice, .slice, .slice] (fun J2 =>
cond (decide ((r5 : Int) ≥ 0)) (
cl Pg F.lead_Find [c.v, d.v] w8 [.agg [.int .u64, .int .u64, .int .u64, .int .u64, .int .i64]] fun (r6 : Int) (r7 : Int) (r8 : Int) (r9 : Int) (r10 : Int) w9 =>
nwv w9 fun w10 =>
nwv w10 fun w11 =>
cl Pg F.lead_Row_Apply [.agg #[.int .u64 r6, .int .u64 r7, .int .u64 r8, .int .u64 r9, .int .i64 r10], c.v, d.v] w11 [.one .slice, .one .slice] fun (s2 : Sl) (s3 : Sl) w12 =>
Jn [.bool, .slice, .slice, .slice, .slice, .int .u64, .int .u64, .int .u64, .int .u64, .int .i64] (fun J3 =>
cond (decide ((r10 : Int) > 0)) (
cl Pg F.api_Nat_Bits [s2.v] w12 [.one (.int .i64)] fun (r11 : Int) w13 =>
J3 (decide ((r11 : Int) > n)) m m1 m2 m3 r6 r7 r8 r9 r10 w13) (
J3 false m m1 m2 m3 r6 r7 r8 r9 r10 w12)) fun (x : Bool) (m4 : Sl) (m5 : Sl) (m6 : Sl) (m7 : Sl) (row : Int) (row1 : Int) (row2 : Int) (row3 : Int) (row4 : Int) w14 =>
cond x (
bnd (wi (n1 + row4)) fun n2 =>
cl Pg F.hgcd_behind [.agg #[m4.v, m5.v, m6.v, m7.v], .agg #[.int .u64 row, .int .u64 row1, .int .u64 row2, .int .u64 row3, .int .i64 row4]] w14.drew [.agg [.slice, .slice, .slice, .slice]] fun (r12 : Sl) (r13 : Sl) (r14 : Sl) (r15 : Sl) w15 =>
nwv w15 fun w16 =>
J1 s2 s3 n2 r12 r13 r14 r15 w16) (
J2 c d n1 m4 m5 m6 m7 w14)) (
J2 c d n1 m m1 m2 m3 w8)) fun (c1 : Sl) (d1 : Sl) (n3 : Int) (m8 : Sl) (m9 : Sl) (m10 : Sl) (m11 : Sl) w17 =>
nck e0 fun a1 =>
ldc (.ptr) w17 a1 fun (v : Option Addr) =>
nck v fun a2 =>
ldc (.ptr) w17 a2 fun (v1 : Option Addr) =>
nck v1 fun a3 =>
ldc (.ptr) w17 a3 fun (v2 : Option Addr) =>
nck v2 fun a4 =>
ldc (.ptr) w17 a4 fun (v3 : Option Addr) =>
nck v3 fun a5 =>
ldc (.ptr) w17 a5 fun (v4 : Option Addr) =>
nck v4 fun a6 =>
ldc (.ptr) w17 a6 fun (v5 : Option Addr) =>
cl Pg F.div_Engine_DivMod [.pointer v5, c1.v, d1.v] w17 [.one .slice, .one .slice, .one (.int .i64)] fun (s4 : Sl) (s5 : Sl) (_ : Int) w18 =>
cl Pg F.hgcd_Engine_one [.pointer e0, .agg #[m8.v, m9.v, m10.v, m11.v], s4.v] w18 [.agg [.slice, .slice, .slice, .slice]] fun (r17 : Sl) (r18 : Sl) (r19 : Sl) (r20 : Sl) w19 =>
bnd (wi (n3 + 1)) fun n4 =>
nwv w19 fun w20 =>
J1 d1 s5 n4 r17 r18 r19 r20 w20) fun (c2 : Sl) (d2 : Sl) (n5 : Int) (m12 : Sl) (m13 : Sl) (m14 : Sl) (m15 : Sl) w21 =>
C0 c2 d2 n5 m12 m13 m14 m15 w21) (
J0 c d n1 m m1 m2 m3 w7)) s s1 0 r r1 r2 r3 w5) fun (c3 : Sl) (d3 : Sl) (n6 : Int) (m16 : Sl) (m17 : Sl) (m18 : Sl) (m19 : Sl) w22 =>
cl Pg F.hgcd_norm [.agg #[m16.v, m17.v, m18.v, m19.v]] w22 [.agg [.slice, .slice, .slice, .slice]] fun (r21 : Sl) (r22 : Sl) (r23 : Sl) (r24 : Sl) w23 =>
nwv w23 fun w24 =>
R (.tuple #[.agg #[r21.v, r22.v, r23.v, r24.v], c3.v, d3.v, .int .i64 n6]) w24
theorem Ct.hgcd_Engine_Steps {e0 : Option Addr} {a : Sl} {b : Sl} {k : Int} {w : TW} {X : Nat → Prop} {K : Tel (fl [.agg [.slice, .slice, .slice, .slice], .one .slice, .one .slice, .one (.int .i64)]) (TW → Prop)} (h : Sh.hgcd_Engine_Steps e0 a b k (Rt X [.agg [.slice, .slice, .slice, .slice], .one .slice, .one .slice, .one (.int .i64)] K w) w.here) : Ct Pg F.hgcd_Engine_Steps [.pointer e0, a.v, b.v, .int .i64 k] w X [.agg [.slice, .slice, .slice, .slice], .one .slice, .one .slice, .one (.int .i64)] K :=
 cod (Sh.hgcd_Engine_Steps e0 a b k) 100 [(8, 100), (12, 104)] [(100, 4), (104, 5)] [(2, 0, [(9, .one .slice), (10, .one .slice), (11, .one (.int .i64)), (100, .one .slice), (101, .one .slice), (102, .one .slice), (103, .one .slice)]), (3, 3, [(9, .one .slice), (10, .one .slice), (11, .one (.int .i64)), (100, .one .slice), (101, .one .slice), (102, .one .slice), (103, .one .slice)]), (2, 1, [(9, .one .slice), (10, .one .slice), (11, .one (.int .i64)), (100, .one .slice), (101, .one .slice), (102, .one .slice), (103, .one .slice)]), (1, 5, [(9, .one .slice), (10, .one .slice), (11, .one (.int .i64)), (100, .one .slice), (101, .one .slice), (102, .one .slice), (103, .one .slice)]), (0, 7, [(51, .one .bool), (100, .one .slice), (101, .one .slice), (102, .one .slice), (103, .one .slice), (104, .one (.int .u64)), (105, .one (.int .u64)), (106, .one (.int .u64)), (107, .one (.int .u64)), (108, .one (.int .i64))])] Go.Proofs.Tryz.f24 (by kernel_rfl) (by kernel_rfl) (by kernel_rfl) (fun _ _ => by kernel_rfl) h
def Sh.hgcd_Engine_Xgcd (e0 : Option Addr) (a : Sl) (b : Sl) (R : Value → TW → Prop) (w : TW) : Prop :=
nwv w fun w1 =>
nwv w1 fun w2 =>
cl Pg F.hgcd_Engine_Steps [.pointer e0, a.v, b.v, .int .i64 0] w2 [.agg [.slice, .slice, .slice, .slice], .one .slice, .one .slice, .one (.int .i64)] fun (_ : Sl) (r1 : Sl) (_ : Sl) (r3 : Sl) (s : Sl) (_ : Sl) (r4 : Int) w3 =>
nwv w3 fun w4 =>
nwv w4 fun w5 =>
cl Pg F.api_Nat_Zero [s.v] w5 [.one .bool] fun (ok : Bool) w6 =>
cond ok (
nwv w6 fun w7 =>
nwv w7 fun w8 =>
R (.tuple #[.slice none 0 0, .agg #[.slice none 0 0, .bool false], .agg #[.slice none 0 0, .bool false]]) w8) (
cond ((r4 : Int) == 0) (
cl Pg F.limb_One [.int .u64 1] w6 [.one .slice] fun (s2 : Sl) w9 =>
nwv w9 fun w10 =>
nwv w10 fun w11 =>
R (.tuple #[s.v, .agg #[s2.v, .bool false], .agg #[.slice none 0 0, .bool false]]) w11) (
remK r4 2 fun n =>
Jn [.slice, .bool, .slice, .bool, .slice] (fun J0 =>
cond (!((n : Int) == 0)) (
cl Pg F.api_Nat_Zero [r3.v] w6.drew [.one .bool] fun (ok1 : Bool) w12 =>
nwv w12 fun w13 =>
J0 r3 (!ok1) Sl.nil false r1 w13) (
nwv w6.drew fun w14 =>
J0 r3 false Sl.nil false r1 w14)) fun (x : Sl) (x1 : Bool) (_ : Sl) (_ : Bool) (m : Sl) w15 =>
Jn [.slice, .bool, .slice, .bool] (fun J1 =>
cond ((n : Int) == 0) (
cl Pg F.api_Nat_Zero [m.v] w15.drew [.one .bool] fun (ok2 : Bool) w16 =>
nwv w16 fun w17 =>
J1 x x1 m (!ok2) w17) (
nwv w15.drew fun w18 =>
J1 x x1 m false w18)) fun (x2 : Sl) (x3 : Bool) (y2 : Sl) (y3 : Bool) w19 =>
nwv w19.drew fun w20 =>
nwv w20 fun w21 =>
R (.tuple #[s.v, .agg #[x2.v, .bool x3], .agg #[y2.v, .bool y3]]) w21))
theorem Ct.hgcd_Engine_Xgcd {e0 : Option Addr} {a : Sl} {b : Sl} {w : TW} {X : Nat → Prop} {K : Tel (fl [.one .slice, .agg [.slice, .bool], .agg [.slice, .bool]]) (TW → Prop)} (h : Sh.hgcd_Engine_Xgcd e0 a b (Rt X [.one .slice, .agg [.slice, .bool], .agg [.slice, .bool]] K w) w.here) : Ct Pg F.hgcd_Engine_Xgcd [.pointer e0, a.v, b.v] w X [.one .slice, .agg [.slice, .bool], .agg [.slice, .bool]] K :=
 cod (Sh.hgcd_Engine_Xgcd e0 a b) 61 [(7, 61), (8, 63), (9, 65)] [(61, 2), (63, 2), (65, 4)] [(0, 7, [(61, .one .slice), (62, .one .bool), (63, .one .slice), (64, .one .bool), (66, .one .slice)]), (0, 8, [(61, .one .slice), (62, .one .bool), (63, .one .slice), (64, .one .bool)])] Go.Proofs.Tryz.f31 (by kernel_rfl) (by kernel_rfl) (by kernel_rfl) (fun _ _ => by kernel_rfl) h
def Sh.hgcd_Unit (R : Value → TW → Prop) (w : TW) : Prop :=
nwv w fun w1 =>
cl Pg F.limb_One [.int .u64 1] w1 [.one .slice] fun (s : Sl) w2 =>
cl Pg F.limb_One [.int .u64 1] w2 [.one .slice] fun (s1 : Sl) w3 =>
nwv w3 fun w4 =>
R (.agg #[s.v, .slice none 0 0, .slice none 0 0, s1.v]) w4
theorem Ct.hgcd_Unit {w : TW} {X : Nat → Prop} {K : Tel (fl [.agg [.slice, .slice, .slice, .slice]]) (TW → Prop)} (h : Sh.hgcd_Unit (Rt X [.agg [.slice, .slice, .slice, .slice]] K w) w.here) : Ct Pg F.hgcd_Unit [] w X [.agg [.slice, .slice, .slice, .slice]] K :=
 cod Sh.hgcd_Unit 4 [(0, 4)] [(4, 4)] [] Go.Proofs.Tryz.f88 (by kernel_rfl) (by kernel_rfl) (by kernel_rfl) (fun _ _ => by kernel_rfl) h
def Sh.hgcd_behind (m0 : Sl) (m1 : Sl) (m2 : Sl) (m3 : Sl) (r0 : Int) (r1 : Int) (r2 : Int) (r3 : Int) (r4 : Int) (R : Value → TW → Prop) (w : TW) : Prop :=
nwv w fun w1 =>
nwv w1 fun w2 =>
nwv w2 fun w3 =>
cl Pg F.hgcd_by [m0.v, m1.v, .int .u64 r3, .int .u64 r1, .int .u64 r2, .int .u64 r0] w3 [.one .slice, .one .slice] fun (s : Sl) (s1 : Sl) w4 =>
nwv w4 fun w5 =>
nwv w5 fun w6 =>
cl Pg F.hgcd_by [m2.v, m3.v, .int .u64 r3, .int .u64 r1, .int .u64 r2, .int .u64 r0] w6 [.one .slice, .one .slice] fun (s2 : Sl) (s3 : Sl) w7 =>
nwv w7 fun w8 =>
nwv w8 fun w9 =>
nwv w9 fun w10 =>
R (.agg #[s.v, s1.v, s2.v, s3.v]) w10
theorem Ct.hgcd_behind {m0 : Sl} {m1 : Sl} {m2 : Sl} {m3 : Sl} {r0 : Int} {r1 : Int} {r2 : Int} {r3 : Int} {r4 : Int} {w : TW} {X : Nat → Prop} {K : Tel (fl [.agg [.slice, .slice, .slice, .slice]]) (TW → Prop)} (h : Sh.hgcd_behind m0 m1 m2 m3 r0 r1 r2 r3 r4 (Rt X [.agg [.slice, .slice, .slice, .slice]] K w) w.here) : Ct Pg F.hgcd_behind [.agg #[m0.v, m1.v, m2.v, m3.v], .agg #[.int .u64 r0, .int .u64 r1, .int .u64 r2, .int .u64 r3, .int .i64 r4]] w X [.agg [.slice, .slice, .slice, .slice]] K :=
 cod (Sh.hgcd_behind m0 m1 m2 m3 r0 r1 r2 r3 r4) 42 [(2, 42), (3, 46), (4, 51)] [(42, 4), (46, 5), (51, 4)] [] Go.Proofs.Tryz.f93 (by kernel_rfl) (by kernel_rfl) (by kernel_rfl) (fun _ _ => by kernel_rfl) h
def Sh.hgcd_Engine_one (e0 : Option Addr) (m0 : Sl) (m1 : Sl) (m2 : Sl) (m3 : Sl) (q : Sl) (R : Value → TW → Prop) (w : TW) : Prop :=
nwv w fun w1 =>
nwv w1 fun w2 =>
nck e0 fun a =>
ldc (.ptr) w2.drew a fun (v : Option Addr) =>
nck v fun a1 =>
ldc (.ptr) w2.drew a1 fun (v1 : Option Addr) =>
nck v1 fun a2 =>
ldc (.ptr) w2.drew a2 fun (v2 : Option Addr) =>
nck v2 fun a3 =>
ldc (.ptr) w2.drew a3 fun (v3 : Option Addr) =>
nck v3 fun a4 =>
ldc (.ptr) w2.drew a4 fun (v4 : Option Addr) =>
nck v4 fun a5 =>
ldc (.ptr) w2.drew a5 fun (v5 : Option Addr) =>
nck v5 fun a6 =>
ldc (.ptr) w2.drew a6 fun (v6 : Option Addr) =>
nck v6 fun a7 =>
ldc (.ptr) w2.drew a7 fun (v7 : Option Addr) =>
nck v7 fun a8 =>
ldc (.ptr) w2.drew a8 fun (v8 : Option Addr) =>
nck e0 fun a9 =>
ldc (.ptr) w2.drew a9 fun (v9 : Option Addr) =>
nck v9 fun a10 =>
ldc (.ptr) w2.drew a10 fun (v10 : Option Addr) =>
nck v10 fun a11 =>
ldc (.ptr) w2.drew a11 fun (v11 : Option Addr) =>
nck v11 fun a12 =>
ldc (.ptr) w2.drew a12 fun (v12 : Option Addr) =>
nck v12 fun a13 =>
ldc (.ptr) w2.drew a13 fun (v13 : Option Addr) =>
nck v13 fun a14 =>
ldc (.ptr) w2.drew a14 fun (v14 : Option Addr) =>
nck v14 fun a15 =>
ldc (.ptr) w2.drew a15 fun (v15 : Option Addr) =>
nck v15 fun a16 =>
ldc (.ptr) w2.drew a16 fun (v16 : Option Addr) =>
nck v16 fun a17 =>
ldc (.ptr) w2.drew a17 fun (v17 : Option Addr) =>
cl Pg F.mul_Engine_Mul [.pointer v8, m0.v, q.v] w2.drew [.one .slice] fun (s : Sl) w3 =>
hld w3 [(a17, .pointer v17), (a16, .pointer v16), (a15, .pointer v15), (a14, .pointer v14), (a13, .pointer v13), (a12, .pointer v12), (a11, .pointer v11), (a10, .pointer v10), (a9, .pointer v9), (a7, .pointer v7), (a6, .pointer v6), (a5, .pointer v5), (a4, .pointer v4), (a3, .pointer v3), (a2, .pointer v2), (a1, .pointer v1), (a, .pointer v)] <|
cl Pg F.limb_Add [s.v, m1.v] w3 [.one .slice] fun (s1 : Sl) w4 =>
hld w4 [(a17, .pointer v17), (a16, .pointer v16), (a15, .pointer v15), (a14, .pointer v14), (a13, .pointer v13), (a12, .pointer v12), (a11, .pointer v11), (a10, .pointer v10), (a9, .pointer v9), (a7, .pointer v7), (a6, .pointer v6), (a5, .pointer v5), (a4, .pointer v4), (a3, .pointer v3), (a2, .pointer v2), (a1, .pointer v1), (a, .pointer v)] <|
cl Pg F.mul_Engine_Mul [.pointer v17, m2.v, q.v] w4 [.one .slice] fun (s2 : Sl) w5 =>
hld w5 [(a16, .pointer v16), (a15, .pointer v15), (a14, .pointer v14), (a13, .pointer v13), (a12, .pointer v12), (a11, .pointer v11), (a10, .pointer v10), (a9, .pointer v9), (a7, .pointer v7), (a6, .pointer v6), (a5, .pointer v5), (a4, .pointer v4), (a3, .pointer v3), (a2, .pointer v2), (a1, .pointer v1), (a, .pointer v)] <|
cl Pg F.limb_Add [s2.v, m3.v] w5 [.one .slice] fun (s3 : Sl) w6 =>
hld w6 [(a16, .pointer v16), (a15, .pointer v15), (a14, .pointer v14), (a13, .pointer v13), (a12, .pointer v12), (a11, .pointer v11), (a10, .pointer v10), (a9, .pointer v9), (a7, .pointer v7), (a6, .pointer v6), (a5, .pointer v5), (a4, .pointer v4), (a3, .pointer v3), (a2, .pointer v2), (a1, .pointer v1), (a, .pointer v)] <|
nwv w6 fun w7 =>
R (.agg #[s1.v, m0.v, s3.v, m2.v]) w7
theorem Ct.hgcd_Engine_one {e0 : Option Addr} {m0 : Sl} {m1 : Sl} {m2 : Sl} {m3 : Sl} {q : Sl} {w : TW} {X : Nat → Prop} {K : Tel (fl [.agg [.slice, .slice, .slice, .slice]]) (TW → Prop)} (h : Sh.hgcd_Engine_one e0 m0 m1 m2 m3 q (Rt X [.agg [.slice, .slice, .slice, .slice]] K w) w.here) : Ct Pg F.hgcd_Engine_one [.pointer e0, .agg #[m0.v, m1.v, m2.v, m3.v], q.v] w X [.agg [.slice, .slice, .slice, .slice]] K :=
 cod (Sh.hgcd_Engine_one e0 m0 m1 m2 m3 q) 82 [(4, 82), (6, 86)] [(82, 4), (86, 4)] [] Go.Proofs.Tryz.f95 (by kernel_rfl) (by kernel_rfl) (by kernel_rfl) (fun _ _ => by kernel_rfl) h
def Sh.hgcd_norm (m0 : Sl) (m1 : Sl) (m2 : Sl) (m3 : Sl) (R : Value → TW → Prop) (w : TW) : Prop :=
nwv w fun w1 =>
nwv w1 fun w2 =>
cl Pg F.limb_Norm [m0.v] w2.drew [.one .slice] fun (s : Sl) w3 =>
cl Pg F.limb_Norm [m1.v] w3 [.one .slice] fun (s1 : Sl) w4 =>
cl Pg F.limb_Norm [m2.v] w4 [.one .slice] fun (s2 : Sl) w5 =>
cl Pg F.limb_Norm [m3.v] w5 [.one .slice] fun (s3 : Sl) w6 =>
nwv w6 fun w7 =>
R (.agg #[s.v, s1.v, s2.v, s3.v]) w7
theorem Ct.hgcd_norm {m0 : Sl} {m1 : Sl} {m2 : Sl} {m3 : Sl} {w : TW} {X : Nat → Prop} {K : Tel (fl [.agg [.slice, .slice, .slice, .slice]]) (TW → Prop)} (h : Sh.hgcd_norm m0 m1 m2 m3 (Rt X [.agg [.slice, .slice, .slice, .slice]] K w) w.here) : Ct Pg F.hgcd_norm [.agg #[m0.v, m1.v, m2.v, m3.v]] w X [.agg [.slice, .slice, .slice, .slice]] K :=
 cod (Sh.hgcd_norm m0 m1 m2 m3) 16 [(1, 16), (2, 20)] [(16, 4), (20, 4)] [] Go.Proofs.Tryz.f96 (by kernel_rfl) (by kernel_rfl) (by kernel_rfl) (fun _ _ => by kernel_rfl) h
def Sh.hgcd_by (x : Sl) (y : Sl) (p : Int) (q : Int) (r : Int) (s : Int) (R : Value → TW → Prop) (w : TW) : Prop :=
cl Pg F.limb_MulWord [x.v, .int .u64 p] w [.one .slice] fun (s1 : Sl) w1 =>
cl Pg F.limb_AddMul [s1.v, y.v, .int .u64 r] w1 [.one .slice] fun (s2 : Sl) w2 =>
cl Pg F.limb_MulWord [x.v, .int .u64 q] w2 [.one .slice] fun (s3 : Sl) w3 =>
cl Pg F.limb_AddMul [s3.v, y.v, .int .u64 s] w3 [.one .slice] fun (s4 : Sl) w4 =>
R (.tuple #[s2.v, s4.v]) w4
theorem Ct.hgcd_by {x : Sl} {y : Sl} {p : Int} {q : Int} {r : Int} {s : Int} {w : TW} {X : Nat → Prop} {K : Tel (fl [.one .slice, .one .slice]) (TW → Prop)} (h : Sh.hgcd_by x y p q r s (Rt X [.one .slice, .one .slice] K w) w.here) : Ct Pg F.hgcd_by [x.v, y.v, .int .u64 p, .int .u64 q, .int .u64 r, .int .u64 s] w X [.one .slice, .one .slice] K :=
 cod (Sh.hgcd_by x y p q r s) 26 [] [] [] Go.Proofs.Tryz.f130 (by kernel_rfl) (by kernel_rfl) (by kernel_rfl) (fun _ _ => by kernel_rfl) h
end Go.Proofs.YticehedkalheiaaGreatDoor.Zg
end

section
set_option maxRecDepth 100000
namespace Go.Proofs.YticehedkalheiaaGreatDoor.Zg
def Sh.kara_Engine_Kara (e0 : Option Addr) (a : Sl) (b : Sl) (inner : Value) (R : Value → TW → Prop) (w : TW) : Prop :=
Jn [.slice, .slice] (fun J0 =>
cond (decide (((a.n : Int) : Int) < (b.n : Int))) (
J0 b a w) (
J0 a b w)) fun (a1 : Sl) (b1 : Sl) w1 =>
bnd (wi ((a1.n : Int) + 1)) fun n =>
divK .i64 n 2 fun n1 =>
cond (decide (((b1.n : Int) : Int) ≤ n1)) (
R (.tuple #[.slice none 0 0, .bool false]) w1) (
nck e0 fun a2 =>
ldc (.ptr) w1 a2 fun (v : Option Addr) =>
nck v fun a3 =>
ldc (.ptr) w1 a3 fun (v1 : Option Addr) =>
nck v1 fun a4 =>
cl Pg F.meter_Meter_Enter [.pointer (some a4)] w1 [.one (.int .i64)] fun (_ : Int) w2 =>
cl Pg F.kara_piece [a1.v, .int .i64 0, .int .i64 n1] w2 [.one .slice] fun (s : Sl) w3 =>
bnd (wi ((a1.n : Int) - n1)) fun n2 =>
cl Pg F.kara_piece [a1.v, .int .i64 n1, .int .i64 n2] w3 [.one .slice] fun (s1 : Sl) w4 =>
cl Pg F.kara_piece [b1.v, .int .i64 0, .int .i64 n1] w4 [.one .slice] fun (s2 : Sl) w5 =>
bnd (wi ((b1.n : Int) - n1)) fun n3 =>
cl Pg F.kara_piece [b1.v, .int .i64 n1, .int .i64 n3] w5 [.one .slice] fun (s3 : Sl) w6 =>
cl Pg F.limb_Add [s.v, s1.v] w6 [.one .slice] fun (s4 : Sl) w7 =>
bnd (wi (n1 + 1)) fun n4 =>
cl Pg F.kara_wide [s4.v, .int .i64 n4] w7 [.one .slice] fun (s5 : Sl) w8 =>
cl Pg F.limb_Add [s2.v, s3.v] w8 [.one .slice] fun (s6 : Sl) w9 =>
bnd (wi (n1 + 1)) fun n5 =>
cl Pg F.kara_wide [s6.v, .int .i64 n5] w9 [.one .slice] fun (s7 : Sl) w10 =>
clv Pg inner [s.v, s2.v] w10 [.one .slice] fun (s8 : Sl) w11 =>
clv Pg inner [s1.v, s3.v] w11 [.one .slice] fun (s9 : Sl) w12 =>
clv Pg inner [s5.v, s7.v] w12 [.one .slice] fun (s10 : Sl) w13 =>
nck e0 fun a5 =>
ldc (.ptr) w13 a5 fun (v2 : Option Addr) =>
nck v2 fun a6 =>
ldc (.ptr) w13 a6 fun (v3 : Option Addr) =>
nck v3 fun a7 =>
cl Pg F.meter_Meter_Leave [.pointer (some a7)] w13 [.one (.int .i64)] fun (_ : Int) w14 =>
cl Pg F.limb_Add [s8.v, s9.v] w14 [.one .slice] fun (s11 : Sl) w15 =>
cl Pg F.limb_Sub [s10.v, s11.v] w15 [.one .slice, .one .bool] fun (s12 : Sl) (_ : Bool) w16 =>
nwb w16 [s8.v, s12.v, s9.v] T.api_Nat fun b2 w17 =>
cl Pg F.limb_Join [.int .i64 n1, .slice (some ⟨b2, 0, none⟩) 3 3] w17 [.one .slice] fun (s13 : Sl) w18 =>
R (.tuple #[s13.v, .bool true]) w18)
theorem Ct.kara_Engine_Kara {e0 : Option Addr} {a : Sl} {b : Sl} {inner : Value} {w : TW} {X : Nat → Prop} {K : Tel (fl [.one .slice, .one .bool]) (TW → Prop)} (h : Sh.kara_Engine_Kara e0 a b inner (Rt X [.one .slice, .one .bool] K w) w.here) : Ct Pg F.kara_Engine_Kara [.pointer e0, a.v, b.v, inner] w X [.one .slice, .one .bool] K :=
 cod (Sh.kara_Engine_Kara e0 a b inner) 117 [] [] [(1, 2, [(1, .one .slice), (2, .one .slice)])] Go.Proofs.Tryz.f165 (by kernel_rfl) (by kernel_rfl) (by kernel_rfl) (fun _ _ => by kernel_rfl) h
def Sh.kara_piece (a : Sl) (from0 : Int) (n : Int) (R : Value → TW → Prop) (w : TW) : Prop :=
mks w n n T.uint64 8 [.int .u64 0] fun s w1 =>
Jn [] (fun J0 =>
cond (decide ((from0 : Int) < (a.n : Int))) (
bnd (wi (from0 + n)) fun n1 =>
bnd (if (n1 : Int) < (a.n : Int) then n1 else (a.n : Int)) fun n2 =>
slc a from0 n2 1 fun s1 =>
cpy w1 T.uint64 s s1 fun _ w2 =>
J0 w2) (
J0 w1)) fun  w3 =>
R (s.v) w3
theorem Ct.kara_piece {a : Sl} {from0 : Int} {n : Int} {w : TW} {X : Nat → Prop} {K : Tel (fl [.one .slice]) (TW → Prop)} (h : Sh.kara_piece a from0 n (Rt X [.one .slice] K w) w.here) : Ct Pg F.kara_piece [a.v, .int .i64 from0, .int .i64 n] w X [.one .slice] K :=
 cod (Sh.kara_piece a from0 n) 26 [] [] [(1, 3, [])] Go.Proofs.Tryz.f179 (by kernel_rfl) (by kernel_rfl) (by kernel_rfl) (fun _ _ => by kernel_rfl) h
def Sh.kara_wide (a : Sl) (n : Int) (R : Value → TW → Prop) (w : TW) : Prop :=
cl Pg F.kara_piece [a.v, .int .i64 0, .int .i64 n] w [.one .slice] fun (s : Sl) w1 =>
R (s.v) w1
theorem Ct.kara_wide {a : Sl} {n : Int} {w : TW} {X : Nat → Prop} {K : Tel (fl [.one .slice]) (TW → Prop)} (h : Sh.kara_wide a n (Rt X [.one .slice] K w) w.here) : Ct Pg F.kara_wide [a.v, .int .i64 n] w X [.one .slice] K :=
 cod (Sh.kara_wide a n) 8 [] [] [] Go.Proofs.Tryz.f180 (by kernel_rfl) (by kernel_rfl) (by kernel_rfl) (fun _ _ => by kernel_rfl) h
def Sh.kara_New (t : HL [.int .i64, .int .i64, .int .i64, .int .i64, .int .i64, .int .i64, .int .i64, .int .i64, .int .i64, .int .i64, .int .i64]) (R : Value → TW → Prop) (w : TW) : Prop :=
nwv w fun w1 =>
cl Pg F.school_New [.agg #[.int .i64 t.1, .int .i64 t.2.1, .int .i64 t.2.2.1, .int .i64 t.2.2.2.1, .int .i64 t.2.2.2.2.1, .int .i64 t.2.2.2.2.2.1, .int .i64 t.2.2.2.2.2.2.1, .int .i64 t.2.2.2.2.2.2.2.1, .int .i64 t.2.2.2.2.2.2.2.2.1, .int .i64 t.2.2.2.2.2.2.2.2.2.1, .int .i64 t.2.2.2.2.2.2.2.2.2.2.1]] w1 [.one .ptr] fun (p : Option Addr) w2 =>
nwb w2 [.pointer p] T.kara_Engine fun b w3 =>
R (.pointer (some ⟨b, 0, none⟩)) w3
theorem Ct.kara_New {t : HL [.int .i64, .int .i64, .int .i64, .int .i64, .int .i64, .int .i64, .int .i64, .int .i64, .int .i64, .int .i64, .int .i64]} {w : TW} {X : Nat → Prop} {K : Tel (fl [.one .ptr]) (TW → Prop)} (h : Sh.kara_New t (Rt X [.one .ptr] K w) w.here) : Ct Pg F.kara_New [.agg (encs [.int .i64, .int .i64, .int .i64, .int .i64, .int .i64, .int .i64, .int .i64, .int .i64, .int .i64, .int .i64, .int .i64] t).toArray] w X [.one .ptr] K :=
 cod (Sh.kara_New t) 7 [(1, 7)] [(7, 11)] [] Go.Proofs.Tryz.f240 (by kernel_rfl) (by kernel_rfl) (by kernel_rfl) (fun _ _ => by kernel_rfl) h
end Go.Proofs.YticehedkalheiaaGreatDoor.Zg
end

section
set_option maxRecDepth 100000
namespace Go.Proofs.YticehedkalheiaaGreatDoor.Zg
def Sh.lead_Find (a : Sl) (b : Sl) (R : Value → TW → Prop) (w : TW) : Prop :=
nwv w fun w1 =>
cl Pg F.api_Nat_Bits [a.v] w1 [.one (.int .i64)] fun (r : Int) w2 =>
cl Pg F.lead_word [a.v, .int .i64 r] w2 [.one (.int .u64)] fun (r1 : Int) w3 =>
cl Pg F.api_Nat_Bits [a.v] w3 [.one (.int .i64)] fun (r2 : Int) w4 =>
cl Pg F.lead_word [b.v, .int .i64 r2] w4 [.one (.int .u64)] fun (r3 : Int) w5 =>
cl Pg F.lead_words [.int .u64 r1, .int .u64 r3] w5 [.agg [.int .u64, .int .u64, .int .u64, .int .u64, .int .i64]] fun (r4 : Int) (r5 : Int) (r6 : Int) (r7 : Int) (r8 : Int) w6 =>
nwv w6 fun w7 =>
R (.agg #[.int .u64 r4, .int .u64 r5, .int .u64 r6, .int .u64 r7, .int .i64 r8]) w7
theorem Ct.lead_Find {a : Sl} {b : Sl} {w : TW} {X : Nat → Prop} {K : Tel (fl [.agg [.int .u64, .int .u64, .int .u64, .int .u64, .int .i64]]) (TW → Prop)} (h : Sh.lead_Find a b (Rt X [.agg [.int .u64, .int .u64, .int .u64, .int .u64, .int .i64]] K w) w.here) : Ct Pg F.lead_Find [a.v, b.v] w X [.agg [.int .u64, .int .u64, .int .u64, .int .u64, .int .i64]] K :=
 cod (Sh.lead_Find a b) 14 [(4, 14)] [(14, 5)] [] Go.Proofs.Tryz.f91 (by kernel_rfl) (by kernel_rfl) (by kernel_rfl) (fun _ _ => by kernel_rfl) h
def Sh.lead_Row_Apply (r0 : Int) (r1 : Int) (r2 : Int) (r3 : Int) (r4 : Int) (a : Sl) (b : Sl) (R : Value → TW → Prop) (w : TW) : Prop :=
nwv w fun w1 =>
remK r4 2 fun n =>
cond ((n : Int) == 1) (
cl Pg F.lead_less [b.v, .int .u64 r1, a.v, .int .u64 r0] w1.drew [.one .slice] fun (s : Sl) w2 =>
cl Pg F.lead_less [a.v, .int .u64 r2, b.v, .int .u64 r3] w2 [.one .slice] fun (s1 : Sl) w3 =>
R (.tuple #[s.v, s1.v]) w3) (
cl Pg F.lead_less [a.v, .int .u64 r0, b.v, .int .u64 r1] w1.drew [.one .slice] fun (s2 : Sl) w4 =>
cl Pg F.lead_less [b.v, .int .u64 r3, a.v, .int .u64 r2] w4 [.one .slice] fun (s3 : Sl) w5 =>
R (.tuple #[s2.v, s3.v]) w5)
theorem Ct.lead_Row_Apply {r0 : Int} {r1 : Int} {r2 : Int} {r3 : Int} {r4 : Int} {a : Sl} {b : Sl} {w : TW} {X : Nat → Prop} {K : Tel (fl [.one .slice, .one .slice]) (TW → Prop)} (h : Sh.lead_Row_Apply r0 r1 r2 r3 r4 a b (Rt X [.one .slice, .one .slice] K w) w.here) : Ct Pg F.lead_Row_Apply [.agg #[.int .u64 r0, .int .u64 r1, .int .u64 r2, .int .u64 r3, .int .i64 r4], a.v, b.v] w X [.one .slice, .one .slice] K :=
 cod (Sh.lead_Row_Apply r0 r1 r2 r3 r4 a b) 40 [(3, 40)] [(40, 5)] [] Go.Proofs.Tryz.f92 (by kernel_rfl) (by kernel_rfl) (by kernel_rfl) (fun _ _ => by kernel_rfl) h
def Sh.lead_words (x : Int) (y : Int) (R : Value → TW → Prop) (w : TW) : Prop :=
nwv w fun w1 =>
nwv w1 fun w2 =>
nwv w2 fun w3 =>
Jn [.int .u64, .int .u64, .int .u64, .int .u64, .int .i64, .int .u64, .int .u64, .int .u64, .int .u64, .int .i64] (fun J0 =>
Lp [.int .u64, .int .u64, .int .u64, .int .u64, .int .u64, .int .u64, .int .i64, .int .u64, .int .u64, .int .u64, .int .u64, .int .i64] (fun (x1 : Int) (y1 : Int) (x2 : Int) (x3 : Int) (x4 : Int) (x5 : Int) (x6 : Int) (r : Int) (r1 : Int) (r2 : Int) (r3 : Int) (r4 : Int) w4 C0 =>
Jn [.bool, .int .u64, .int .u64, .int .u64, .int .u64, .int .i64, .int .u64, .int .u64, .int .u64, .int .u64, .int .i64] (fun J1 =>
cond (decide ((r2 : Int) < 1073741824)) (
J1 (decide ((r3 : Int) < 1073741824)) x2 x3 x4 x5 x6 r r1 r2 r3 r4 w4) (
J1 false x2 x3 x4 x5 x6 r r1 r2 r3 r4 w4)) fun (x7 : Bool) (x8 : Int) (x9 : Int) (x10 : Int) (x11 : Int) (x12 : Int) (r5 : Int) (r6 : Int) (r7 : Int) (r8 : Int) (r9 : Int) w5 =>
cond x7 (
cl Pg F.lead_Row_quotient [.agg #[.int .u64 r5, .int .u64 r6, .int .u64 r7, .int .u64 r8, .int .i64 r9], .int .u64 x1, .int .u64 y1] w5 [.one (.int .u64), .one .bool] fun (r10 : Int) (ok : Bool) w6 =>
cond (!ok) (
J0 x8 x9 x10 x11 x12 r5 r6 r7 r8 r9 w6) (
bnd (wu (r10 * y1)) fun n =>
bnd (wu (x1 - n)) fun n1 =>
cl Pg F.lead_Row_next [.agg #[.int .u64 r5, .int .u64 r6, .int .u64 r7, .int .u64 r8, .int .i64 r9], .int .u64 r10] w6 [.agg [.int .u64, .int .u64, .int .u64, .int .u64, .int .i64]] fun (r11 : Int) (r12 : Int) (r13 : Int) (r14 : Int) (r15 : Int) w7 =>
nwv w7 fun w8 =>
C0 y1 n1 x8 x9 x10 x11 x12 r11 r12 r13 r14 r15 w8)) (
J0 x8 x9 x10 x11 x12 r5 r6 r7 r8 r9 w5)) x y 0 0 0 0 0 1 0 0 1 0 w3) fun (_ : Int) (_ : Int) (_ : Int) (_ : Int) (_ : Int) (r16 : Int) (r17 : Int) (r18 : Int) (r19 : Int) (r20 : Int) w9 =>
nwv w9 fun w10 =>
R (.agg #[.int .u64 r16, .int .u64 r17, .int .u64 r18, .int .u64 r19, .int .i64 r20]) w10
theorem Ct.lead_words {x : Int} {y : Int} {w : TW} {X : Nat → Prop} {K : Tel (fl [.agg [.int .u64, .int .u64, .int .u64, .int .u64, .int .i64]]) (TW → Prop)} (h : Sh.lead_words x y (Rt X [.agg [.int .u64, .int .u64, .int .u64, .int .u64, .int .i64]] K w) w.here) : Ct Pg F.lead_words [.int .u64 x, .int .u64 y] w X [.agg [.int .u64, .int .u64, .int .u64, .int .u64, .int .i64]] K :=
 cod (Sh.lead_words x y) 36 [(4, 36), (5, 41)] [(36, 5), (41, 5)] [(2, 0, [(36, .one (.int .u64)), (37, .one (.int .u64)), (38, .one (.int .u64)), (39, .one (.int .u64)), (40, .one (.int .i64)), (41, .one (.int .u64)), (42, .one (.int .u64)), (43, .one (.int .u64)), (44, .one (.int .u64)), (45, .one (.int .i64))]), (3, 2, [(0, .one (.int .u64)), (1, .one (.int .u64)), (36, .one (.int .u64)), (37, .one (.int .u64)), (38, .one (.int .u64)), (39, .one (.int .u64)), (40, .one (.int .i64)), (41, .one (.int .u64)), (42, .one (.int .u64)), (43, .one (.int .u64)), (44, .one (.int .u64)), (45, .one (.int .i64))]), (0, 2, [(16, .one .bool), (36, .one (.int .u64)), (37, .one (.int .u64)), (38, .one (.int .u64)), (39, .one (.int .u64)), (40, .one (.int .i64)), (41, .one (.int .u64)), (42, .one (.int .u64)), (43, .one (.int .u64)), (44, .one (.int .u64)), (45, .one (.int .i64))])] Go.Proofs.Tryz.f127 (by kernel_rfl) (by kernel_rfl) (by kernel_rfl) (fun _ _ => by kernel_rfl) h
def Sh.lead_word (a : Sl) (digits : Int) (R : Value → TW → Prop) (w : TW) : Prop :=
bnd (wi (digits - 62)) fun n =>
bnd (if (n : Int) > 0 then n else 0) fun n1 =>
cl Pg F.limb_Shr [a.v, .int .i64 n1] w [.one .slice] fun (s : Sl) w1 =>
cl Pg F.api_Nat_Zero [s.v] w1 [.one .bool] fun (ok : Bool) w2 =>
cond ok (
R (.int .u64 0) w2) (
ixa s 0 1 fun a1 =>
ldc (.int .u64) w2 a1 fun (v : Int) =>
R (.int .u64 v) w2)
theorem Ct.lead_word {a : Sl} {digits : Int} {w : TW} {X : Nat → Prop} {K : Tel (fl [.one (.int .u64)]) (TW → Prop)} (h : Sh.lead_word a digits (Rt X [.one (.int .u64)] K w) w.here) : Ct Pg F.lead_word [a.v, .int .i64 digits] w X [.one (.int .u64)] K :=
 cod (Sh.lead_word a digits) 16 [] [] [] Go.Proofs.Tryz.f128 (by kernel_rfl) (by kernel_rfl) (by kernel_rfl) (fun _ _ => by kernel_rfl) h
def Sh.lead_less (a : Sl) (p : Int) (b : Sl) (q : Int) (R : Value → TW → Prop) (w : TW) : Prop :=
cl Pg F.limb_MulWord [a.v, .int .u64 p] w [.one .slice] fun (s : Sl) w1 =>
cl Pg F.limb_SubMul [s.v, b.v, .int .u64 q] w1 [.one .slice, .one .bool] fun (s1 : Sl) (_ : Bool) w2 =>
R (s1.v) w2
theorem Ct.lead_less {a : Sl} {p : Int} {b : Sl} {q : Int} {w : TW} {X : Nat → Prop} {K : Tel (fl [.one .slice]) (TW → Prop)} (h : Sh.lead_less a p b q (Rt X [.one .slice] K w) w.here) : Ct Pg F.lead_less [a.v, .int .u64 p, b.v, .int .u64 q] w X [.one .slice] K :=
 cod (Sh.lead_less a p b q) 21 [] [] [] Go.Proofs.Tryz.f129 (by kernel_rfl) (by kernel_rfl) (by kernel_rfl) (fun _ _ => by kernel_rfl) h
def Sh.lead_Row_quotient (r0 : Int) (r1 : Int) (r2 : Int) (r3 : Int) (r4 : Int) (x : Int) (y : Int) (R : Value → TW → Prop) (w : TW) : Prop :=
nwv w fun w1 =>
remK r4 2 fun n =>
Jn [.int .u64, .int .u64, .int .u64, .int .u64] (fun J0 =>
cond ((n : Int) == 1) (
J0 r0 r1 r3 r2 w1.drew.drew) (
J0 r1 r0 r2 r3 w1.drew)) fun (lessX : Int) (moreX : Int) (lessY : Int) (moreY : Int) w2 =>
Jn [.bool] (fun J1 =>
cond (decide ((x : Int) < lessX)) (
J1 true w2) (
J1 (decide ((y : Int) ≤ lessY)) w2)) fun (x1 : Bool) w3 =>
cond x1 (
R (.tuple #[.int .u64 0, .bool false]) w3) (
bnd (wu (x - lessX)) fun n1 =>
bnd (wu (y + moreY)) fun n2 =>
divK .u64 n1 n2 fun n3 =>
bnd (wu (x + moreX)) fun n4 =>
bnd (wu (y - lessY)) fun n5 =>
divK .u64 n4 n5 fun n6 =>
Jn [.int .u64, .bool] (fun J2 =>
cond ((n3 : Int) == n6) (
J2 n3 (decide ((n3 : Int) < 2147483648)) w3.drew) (
J2 n3 false w3.drew)) fun (x2 : Int) (x3 : Bool) w4 =>
R (.tuple #[.int .u64 x2, .bool x3]) w4)
theorem Ct.lead_Row_quotient {r0 : Int} {r1 : Int} {r2 : Int} {r3 : Int} {r4 : Int} {x : Int} {y : Int} {w : TW} {X : Nat → Prop} {K : Tel (fl [.one (.int .u64), .one .bool]) (TW → Prop)} (h : Sh.lead_Row_quotient r0 r1 r2 r3 r4 x y (Rt X [.one (.int .u64), .one .bool] K w) w.here) : Ct Pg F.lead_Row_quotient [.agg #[.int .u64 r0, .int .u64 r1, .int .u64 r2, .int .u64 r3, .int .i64 r4], .int .u64 x, .int .u64 y] w X [.one (.int .u64), .one .bool] K :=
 cod (Sh.lead_Row_quotient r0 r1 r2 r3 r4 x y) 64 [(3, 64)] [(64, 5)] [(1, 3, [(8, .one (.int .u64)), (9, .one (.int .u64)), (10, .one (.int .u64)), (11, .one (.int .u64))]), (0, 4, [(41, .one .bool)]), (0, 7, [(6, .one (.int .u64)), (7, .one .bool)])] Go.Proofs.Tryz.f148 (by kernel_rfl) (by kernel_rfl) (by kernel_rfl) (fun _ _ => by kernel_rfl) h
def Sh.lead_Row_next (r0 : Int) (r1 : Int) (r2 : Int) (r3 : Int) (r4 : Int) (k : Int) (R : Value → TW → Prop) (w : TW) : Prop :=
nwv w fun w1 =>
nwv w1 fun w2 =>
bnd (wu (k * r2)) fun n =>
bnd (wu (r0 + n)) fun n1 =>
bnd (wu (k * r3)) fun n2 =>
bnd (wu (r1 + n2)) fun n3 =>
bnd (wi (r4 + 1)) fun n4 =>
nwv w2 fun w3 =>
R (.agg #[.int .u64 r2, .int .u64 r3, .int .u64 n1, .int .u64 n3, .int .i64 n4]) w3
theorem Ct.lead_Row_next {r0 : Int} {r1 : Int} {r2 : Int} {r3 : Int} {r4 : Int} {k : Int} {w : TW} {X : Nat → Prop} {K : Tel (fl [.agg [.int .u64, .int .u64, .int .u64, .int .u64, .int .i64]]) (TW → Prop)} (h : Sh.lead_Row_next r0 r1 r2 r3 r4 k (Rt X [.agg [.int .u64, .int .u64, .int .u64, .int .u64, .int .i64]] K w) w.here) : Ct Pg F.lead_Row_next [.agg #[.int .u64 r0, .int .u64 r1, .int .u64 r2, .int .u64 r3, .int .i64 r4], .int .u64 k] w X [.agg [.int .u64, .int .u64, .int .u64, .int .u64, .int .i64]] K :=
 cod (Sh.lead_Row_next r0 r1 r2 r3 r4 k) 27 [(2, 27), (4, 32)] [(27, 5), (32, 5)] [] Go.Proofs.Tryz.f149 (by kernel_rfl) (by kernel_rfl) (by kernel_rfl) (fun _ _ => by kernel_rfl) h
end Go.Proofs.YticehedkalheiaaGreatDoor.Zg
end
