/- A part of the proofs of this seat's laws: words, lemmas or contracts of its functions. -/
import Derived.Test.YticehedkalheiaaGreatDoorGC
set_option linter.unusedVariables false
set_option linter.unusedSimpArgs false
set_option linter.unnecessarySimpa false
section
set_option maxRecDepth 100000
namespace Go.Proofs.YticehedkalheiaaGreatDoor.Zg
def Sh.toom_Engine_Toom (e0 : Option Addr) (a : Sl) (b : Sl) (inner : Value) (R : Value → TW → Prop) (w : TW) : Prop :=
Jn [.slice, .slice] (fun J0 =>
cond (decide (((a.n : Int) : Int) < (b.n : Int))) (
J0 b a w) (
J0 a b w)) fun (a1 : Sl) (b1 : Sl) w1 =>
bnd (wi ((a1.n : Int) + 2)) fun n =>
divK .i64 n 3 fun n1 =>
bnd (wi (2 * n1)) fun n2 =>
cond (decide (((b1.n : Int) : Int) ≤ n2)) (
R (.tuple #[.slice none 0 0, .bool false]) w1) (
nck e0 fun a2 =>
ldc (.ptr) w1 a2 fun (v : Option Addr) =>
nck v fun a3 =>
ldc (.ptr) w1 a3 fun (v1 : Option Addr) =>
nck v1 fun a4 =>
ldc (.ptr) w1 a4 fun (v2 : Option Addr) =>
nck v2 fun a5 =>
cl Pg F.meter_Meter_Enter [.pointer (some a5)] w1 [.one (.int .i64)] fun (_ : Int) w2 =>
cl Pg F.toom_Points [a1.v, .int .i64 n1] w2 [.agg [.slice, .bool], .agg [.slice, .bool], .agg [.slice, .bool], .agg [.slice, .bool], .agg [.slice, .bool]] fun (r1 : Sl) (_ : Bool) (r3 : Sl) (_ : Bool) (r5 : Sl) (r6 : Bool) (r7 : Sl) (_ : Bool) (r9 : Sl) (_ : Bool) w3 =>
nwv w3 fun w4 =>
nwv w4 fun w5 =>
nwv w5 fun w6 =>
nwv w6 fun w7 =>
nwv w7 fun w8 =>
nwv w8 fun w9 =>
nwv w9 fun w10 =>
nwv w10 fun w11 =>
nwv w11 fun w12 =>
nwv w12 fun w13 =>
cl Pg F.toom_Points [b1.v, .int .i64 n1] w13 [.agg [.slice, .bool], .agg [.slice, .bool], .agg [.slice, .bool], .agg [.slice, .bool], .agg [.slice, .bool]] fun (r11 : Sl) (_ : Bool) (r13 : Sl) (_ : Bool) (r15 : Sl) (r16 : Bool) (r17 : Sl) (_ : Bool) (r19 : Sl) (_ : Bool) w14 =>
nwv w14 fun w15 =>
nwv w15 fun w16 =>
nwv w16 fun w17 =>
nwv w17 fun w18 =>
nwv w18 fun w19 =>
nwv w19 fun w20 =>
nwv w20 fun w21 =>
nwv w21 fun w22 =>
nwv w22 fun w23 =>
nwv w23 fun w24 =>
cl Pg F.toom_wide [r1.v, .int .i64 n1] w24.drew [.one .slice] fun (s : Sl) w25 =>
cl Pg F.toom_wide [r11.v, .int .i64 n1] w25 [.one .slice] fun (s1 : Sl) w26 =>
clv Pg inner [s.v, s1.v] w26 [.one .slice] fun (s2 : Sl) w27 =>
bnd (wi (n1 + 1)) fun n3 =>
bnd (wi (n1 + 1)) fun n4 =>
cl Pg F.toom_wide [r3.v, .int .i64 n3] w27.drew [.one .slice] fun (s3 : Sl) w28 =>
cl Pg F.toom_wide [r13.v, .int .i64 n4] w28 [.one .slice] fun (s4 : Sl) w29 =>
clv Pg inner [s3.v, s4.v] w29 [.one .slice] fun (s5 : Sl) w30 =>
bnd (wi (n1 + 1)) fun n5 =>
bnd (wi (n1 + 1)) fun n6 =>
cl Pg F.toom_wide [r5.v, .int .i64 n5] w30.drew [.one .slice] fun (s6 : Sl) w31 =>
cl Pg F.toom_wide [r15.v, .int .i64 n6] w31 [.one .slice] fun (s7 : Sl) w32 =>
clv Pg inner [s6.v, s7.v] w32 [.one .slice] fun (s8 : Sl) w33 =>
bnd (wi (n1 + 1)) fun n7 =>
bnd (wi (n1 + 1)) fun n8 =>
cl Pg F.toom_wide [r7.v, .int .i64 n7] w33.drew [.one .slice] fun (s9 : Sl) w34 =>
cl Pg F.toom_wide [r17.v, .int .i64 n8] w34 [.one .slice] fun (s10 : Sl) w35 =>
clv Pg inner [s9.v, s10.v] w35 [.one .slice] fun (s11 : Sl) w36 =>
bnd (wi (2 * n1)) fun n9 =>
bnd (wi ((a1.n : Int) - n9)) fun n10 =>
bnd (wi (2 * n1)) fun n11 =>
bnd (wi ((b1.n : Int) - n11)) fun n12 =>
cl Pg F.toom_wide [r9.v, .int .i64 n10] w36.drew [.one .slice] fun (s12 : Sl) w37 =>
cl Pg F.toom_wide [r19.v, .int .i64 n12] w37 [.one .slice] fun (s13 : Sl) w38 =>
clv Pg inner [s12.v, s13.v] w38 [.one .slice] fun (s14 : Sl) w39 =>
nck e0 fun a6 =>
ldc (.ptr) w39 a6 fun (v3 : Option Addr) =>
nck v3 fun a7 =>
ldc (.ptr) w39 a7 fun (v4 : Option Addr) =>
nck v4 fun a8 =>
ldc (.ptr) w39 a8 fun (v5 : Option Addr) =>
nck v5 fun a9 =>
cl Pg F.meter_Meter_Leave [.pointer (some a9)] w39 [.one (.int .i64)] fun (_ : Int) w40 =>
cl Pg F.toom_joined [.int .i64 n1, s2.v, s5.v, s8.v, s11.v, s14.v, .bool (!(r6 == r16))] w40 [.one .slice] fun (s15 : Sl) w41 =>
R (.tuple #[s15.v, .bool true]) w41)
theorem Ct.toom_Engine_Toom {e0 : Option Addr} {a : Sl} {b : Sl} {inner : Value} {w : TW} {X : Nat → Prop} {K : Tel (fl [.one .slice, .one .bool]) (TW → Prop)} (h : Sh.toom_Engine_Toom e0 a b inner (Rt X [.one .slice, .one .bool] K w) w.here) : Ct Pg F.toom_Engine_Toom [.pointer e0, a.v, b.v, inner] w X [.one .slice, .one .bool] K :=
  cod (Sh.toom_Engine_Toom e0 a b inner) 164 [(13, 164), (14, 166), (15, 168), (16, 170), (17, 172), (18, 174), (19, 176), (20, 178), (21, 180), (22, 182)] [(164, 2), (166, 2), (168, 2), (170, 2), (172, 2), (174, 2), (176, 2), (178, 2), (180, 2), (182, 2)] [(1, 2, [(1, .one .slice), (2, .one .slice)])] Go.Proofs.Tryz.f166 (by kernel_rfl) (by kernel_rfl) (by kernel_rfl) (fun _ _ => by kernel_rfl) h
def Sh.toom_Points (a : Sl) (k : Int) (R : Value → TW → Prop) (w : TW) : Prop :=
nwv w fun w1 =>
nwv w1 fun w2 =>
nwv w2 fun w3 =>
nwv w3 fun w4 =>
nwv w4 fun w5 =>
bnd (if (16384 : Int) < k then 16384 else k) fun n =>
bnd (if (n : Int) > 1 then n else 1) fun n1 =>
cl Pg F.limb_Norm [a.v] w5 [.one .slice] fun (s : Sl) w6 =>
cl Pg F.toom_part [s.v, .int .i64 0, .int .i64 n1] w6 [.one .slice] fun (s1 : Sl) w7 =>
bnd (wi (2 * n1)) fun n2 =>
cl Pg F.toom_part [s.v, .int .i64 n1, .int .i64 n2] w7 [.one .slice] fun (s2 : Sl) w8 =>
bnd (wi (2 * n1)) fun n3 =>
cl Pg F.toom_part [s.v, .int .i64 n3, .int .i64 (s.n : Int)] w8 [.one .slice] fun (s3 : Sl) w9 =>
cl Pg F.limb_Add [s1.v, s3.v] w9 [.one .slice] fun (s4 : Sl) w10 =>
cl Pg F.limb_Norm [s1.v] w10 [.one .slice] fun (s5 : Sl) w11 =>
nwv w11 fun w12 =>
cl Pg F.limb_Add [s4.v, s2.v] w12 [.one .slice] fun (s6 : Sl) w13 =>
nwv w13 fun w14 =>
cl Pg F.toom_less [s4.v, s2.v] w14 [.agg [.slice, .bool]] fun (r : Sl) (r1 : Bool) w15 =>
nwv w15 fun w16 =>
cl Pg F.limb_Shl [s2.v, .int .i64 1] w16 [.one .slice] fun (s7 : Sl) w17 =>
cl Pg F.limb_Shl [s3.v, .int .i64 2] w17 [.one .slice] fun (s8 : Sl) w18 =>
nwb w18 [s1.v, s7.v, s8.v] T.api_Nat fun b w19 =>
cl Pg F.limb_Sum [.slice (some ⟨b, 0, none⟩) 3 3] w19 [.one .slice] fun (s9 : Sl) w20 =>
nwv w20 fun w21 =>
cl Pg F.limb_Norm [s3.v] w21 [.one .slice] fun (s10 : Sl) w22 =>
nwv w22 fun w23 =>
nwv w23.drew fun w24 =>
nwv w24 fun w25 =>
nwv w25 fun w26 =>
nwv w26 fun w27 =>
nwv w27 fun w28 =>
R (.tuple #[.agg #[s5.v, .bool false], .agg #[s6.v, .bool false], .agg #[r.v, .bool r1], .agg #[s9.v, .bool false], .agg #[s10.v, .bool false]]) w28
theorem Ct.toom_Points {a : Sl} {k : Int} {w : TW} {X : Nat → Prop} {K : Tel (fl [.agg [.slice, .bool], .agg [.slice, .bool], .agg [.slice, .bool], .agg [.slice, .bool], .agg [.slice, .bool]]) (TW → Prop)} (h : Sh.toom_Points a k (Rt X [.agg [.slice, .bool], .agg [.slice, .bool], .agg [.slice, .bool], .agg [.slice, .bool], .agg [.slice, .bool]] K w) w.here) : Ct Pg F.toom_Points [a.v, .int .i64 k] w X [.agg [.slice, .bool], .agg [.slice, .bool], .agg [.slice, .bool], .agg [.slice, .bool], .agg [.slice, .bool]] K :=
  cod (Sh.toom_Points a k) 61 [(4, 61), (5, 63), (6, 65), (7, 67), (8, 69)] [(61, 2), (63, 2), (65, 2), (67, 2), (69, 2)] [] Go.Proofs.Tryz.f181 (by kernel_rfl) (by kernel_rfl) (by kernel_rfl) (fun _ _ => by kernel_rfl) h
def Sh.toom_wide (a : Sl) (n : Int) (R : Value → TW → Prop) (w : TW) : Prop :=
mks w n n T.uint64 8 [.int .u64 0] fun s w1 =>
cl Pg F.api_Nat_Len [a.v] w1 [.one (.int .i64)] fun (r : Int) w2 =>
slc a 0 r 1 fun s1 =>
cpy w2 T.uint64 s s1 fun _ w3 =>
R (s.v) w3
theorem Ct.toom_wide {a : Sl} {n : Int} {w : TW} {X : Nat → Prop} {K : Tel (fl [.one .slice]) (TW → Prop)} (h : Sh.toom_wide a n (Rt X [.one .slice] K w) w.here) : Ct Pg F.toom_wide [a.v, .int .i64 n] w X [.one .slice] K :=
  cod (Sh.toom_wide a n) 15 [] [] [] Go.Proofs.Tryz.f182 (by kernel_rfl) (by kernel_rfl) (by kernel_rfl) (fun _ _ => by kernel_rfl) h
def Sh.toom_joined (k : Int) (r0 : Sl) (r1 : Sl) (rm : Sl) (r2 : Sl) (inf : Sl) (neg : Bool) (R : Value → TW → Prop) (w : TW) : Prop :=
cl Pg F.limb_Add [r1.v, rm.v] w [.one .slice] fun (s : Sl) w1 =>
cl Pg F.toom_sub2 [r1.v, rm.v] w1 [.one .slice] fun (s1 : Sl) w2 =>
Jn [.slice, .slice] (fun J0 =>
cond neg (
J0 s1 s w2) (
J0 s s1 w2)) fun (even : Sl) (odd : Sl) w3 =>
cl Pg F.limb_Shr [even.v, .int .i64 1] w3 [.one .slice] fun (s2 : Sl) w4 =>
cl Pg F.limb_Shr [odd.v, .int .i64 1] w4 [.one .slice] fun (s3 : Sl) w5 =>
nwb w5 [r0.v, inf.v] T.api_Nat fun b w6 =>
cl Pg F.toom_sub [s2.v, .slice (some ⟨b, 0, none⟩) 2 2] w6 [.one .slice] fun (s4 : Sl) w7 =>
cl Pg F.limb_Shl [s4.v, .int .i64 2] w7 [.one .slice] fun (s5 : Sl) w8 =>
cl Pg F.limb_Shl [inf.v, .int .i64 4] w8 [.one .slice] fun (s6 : Sl) w9 =>
nwb w9 [r0.v, s5.v, s6.v] T.api_Nat fun b1 w10 =>
cl Pg F.toom_sub [r2.v, .slice (some ⟨b1, 0, none⟩) 3 3] w10 [.one .slice] fun (s7 : Sl) w11 =>
cl Pg F.limb_Shr [s7.v, .int .i64 1] w11 [.one .slice] fun (s8 : Sl) w12 =>
nwb w12 [s3.v] T.api_Nat fun b2 w13 =>
cl Pg F.toom_sub [s8.v, .slice (some ⟨b2, 0, none⟩) 1 1] w13 [.one .slice] fun (s9 : Sl) w14 =>
cl Pg F.toom_Third [s9.v] w14 [.one .slice, .one .bool] fun (s10 : Sl) (_ : Bool) w15 =>
nwb w15 [s10.v] T.api_Nat fun b3 w16 =>
cl Pg F.toom_sub [s3.v, .slice (some ⟨b3, 0, none⟩) 1 1] w16 [.one .slice] fun (s11 : Sl) w17 =>
nwb w17 [r0.v, s11.v, s4.v, s10.v, inf.v] T.api_Nat fun b4 w18 =>
cl Pg F.limb_Join [.int .i64 k, .slice (some ⟨b4, 0, none⟩) 5 5] w18 [.one .slice] fun (s12 : Sl) w19 =>
R (s12.v) w19
theorem Ct.toom_joined {k : Int} {r0 : Sl} {r1 : Sl} {rm : Sl} {r2 : Sl} {inf : Sl} {neg : Bool} {w : TW} {X : Nat → Prop} {K : Tel (fl [.one .slice]) (TW → Prop)} (h : Sh.toom_joined k r0 r1 rm r2 inf neg (Rt X [.one .slice] K w) w.here) : Ct Pg F.toom_joined [.int .i64 k, r0.v, r1.v, rm.v, r2.v, inf.v, .bool neg] w X [.one .slice] K :=
  cod (Sh.toom_joined k r0 r1 rm r2 inf neg) 69 [] [] [(1, 3, [(15, .one .slice), (16, .one .slice)])] Go.Proofs.Tryz.f183 (by kernel_rfl) (by kernel_rfl) (by kernel_rfl) (fun _ _ => by kernel_rfl) h
def Sh.toom_part (a : Sl) (from0 : Int) (to : Int) (R : Value → TW → Prop) (w : TW) : Prop :=
cond (decide ((from0 : Int) ≥ (a.n : Int))) (
R (.slice none 0 0) w) (
bnd (if ((a.n : Int) : Int) < to then (a.n : Int) else to) fun n =>
slc a from0 n 1 fun s =>
R (s.v) w)
theorem Ct.toom_part {a : Sl} {from0 : Int} {to : Int} {w : TW} {X : Nat → Prop} {K : Tel (fl [.one .slice]) (TW → Prop)} (h : Sh.toom_part a from0 to (Rt X [.one .slice] K w) w.here) : Ct Pg F.toom_part [a.v, .int .i64 from0, .int .i64 to] w X [.one .slice] K :=
  cod (Sh.toom_part a from0 to) 18 [] [] [] Go.Proofs.Tryz.f194 (by kernel_rfl) (by kernel_rfl) (by kernel_rfl) (fun _ _ => by kernel_rfl) h
def Sh.toom_less (a : Sl) (b : Sl) (R : Value → TW → Prop) (w : TW) : Prop :=
nwv w fun w1 =>
cl Pg F.limb_Sub [a.v, b.v] w1 [.one .slice, .one .bool] fun (s : Sl) (ok : Bool) w2 =>
cond ok (
nwv w2 fun w3 =>
R (.agg #[s.v, .bool false]) w3) (
cl Pg F.limb_Sub [b.v, a.v] w2 [.one .slice, .one .bool] fun (s1 : Sl) (_ : Bool) w4 =>
nwv w4 fun w5 =>
R (.agg #[s1.v, .bool true]) w5)
theorem Ct.toom_less {a : Sl} {b : Sl} {w : TW} {X : Nat → Prop} {K : Tel (fl [.agg [.slice, .bool]]) (TW → Prop)} (h : Sh.toom_less a b (Rt X [.agg [.slice, .bool]] K w) w.here) : Ct Pg F.toom_less [a.v, b.v] w X [.agg [.slice, .bool]] K :=
  cod (Sh.toom_less a b) 26 [(4, 26)] [(26, 2)] [] Go.Proofs.Tryz.f195 (by kernel_rfl) (by kernel_rfl) (by kernel_rfl) (fun _ _ => by kernel_rfl) h
def Sh.toom_sub2 (a : Sl) (b : Sl) (R : Value → TW → Prop) (w : TW) : Prop :=
cl Pg F.limb_Sub [a.v, b.v] w [.one .slice, .one .bool] fun (s : Sl) (_ : Bool) w1 =>
R (s.v) w1
theorem Ct.toom_sub2 {a : Sl} {b : Sl} {w : TW} {X : Nat → Prop} {K : Tel (fl [.one .slice]) (TW → Prop)} (h : Sh.toom_sub2 a b (Rt X [.one .slice] K w) w.here) : Ct Pg F.toom_sub2 [a.v, b.v] w X [.one .slice] K :=
  cod (Sh.toom_sub2 a b) 14 [] [] [] Go.Proofs.Tryz.f197 (by kernel_rfl) (by kernel_rfl) (by kernel_rfl) (fun _ _ => by kernel_rfl) h
def Sh.toom_sub (a : Sl) (l : Sl) (R : Value → TW → Prop) (w : TW) : Prop :=
cl Pg F.limb_Sum [l.v] w [.one .slice] fun (s : Sl) w1 =>
cl Pg F.limb_Sub [a.v, s.v] w1 [.one .slice, .one .bool] fun (s1 : Sl) (_ : Bool) w2 =>
R (s1.v) w2
theorem Ct.toom_sub {a : Sl} {l : Sl} {w : TW} {X : Nat → Prop} {K : Tel (fl [.one .slice]) (TW → Prop)} (h : Sh.toom_sub a l (Rt X [.one .slice] K w) w.here) : Ct Pg F.toom_sub [a.v, l.v] w X [.one .slice] K :=
  cod (Sh.toom_sub a l) 15 [] [] [] Go.Proofs.Tryz.f198 (by kernel_rfl) (by kernel_rfl) (by kernel_rfl) (fun _ _ => by kernel_rfl) h
def Sh.toom_Third (a : Sl) (R : Value → TW → Prop) (w : TW) : Prop :=
cl Pg F.limb_Norm [a.v] w [.one .slice] fun (s : Sl) w1 =>
Jn [.int .u64] (fun J0 =>
Lp [.int .u64, .int .i64] (fun (c : Int) (x : Int) w2 C0 =>
cond (decide ((x : Int) < (s.n : Int))) (
ixa s x 1 fun a1 =>
ldc (.int .u64) w2 a1 fun (v : Int) =>
sub64 v c 0 fun s1 c1 =>
bnd (wu (s1 * 12297829382473034411)) fun n =>
ixa s x 1 fun a2 =>
stc w2 a2 (.int .u64 n) fun w3 =>
cl Pg F.bits_Mul64 [.int .u64 n, .int .u64 3] w3 [.one (.int .u64), .one (.int .u64)] fun (r : Int) (_ : Int) w4 =>
bnd (wu (r + c1)) fun n1 =>
bnd (wi (x + 1)) fun n2 =>
C0 n1 n2 w4) (
J0 c w2)) 0 0 w1) fun (c2 : Int) w5 =>
cond ((c2 : Int) != 0) (
R (.tuple #[.slice none 0 0, .bool false]) w5) (
cl Pg F.limb_Norm [s.v] w5 [.one .slice] fun (s2 : Sl) w6 =>
R (.tuple #[s2.v, .bool true]) w6)
theorem Ct.toom_Third {a : Sl} {w : TW} {X : Nat → Prop} {K : Tel (fl [.one .slice, .one .bool]) (TW → Prop)} (h : Sh.toom_Third a (Rt X [.one .slice, .one .bool] K w) w.here) : Ct Pg F.toom_Third [a.v] w X [.one .slice, .one .bool] K :=
  cod (Sh.toom_Third a) 46 [] [] [(2, 0, [(4, .one (.int .u64))]), (3, 4, [(4, .one (.int .u64)), (16, .one (.int .i64))])] Go.Proofs.Tryz.f199 (by kernel_rfl) (by kernel_rfl) (by kernel_rfl) (fun _ _ => by kernel_rfl) h
def Sh.toom_New (t : HL [.int .i64, .int .i64, .int .i64, .int .i64, .int .i64, .int .i64, .int .i64, .int .i64, .int .i64, .int .i64, .int .i64]) (R : Value → TW → Prop) (w : TW) : Prop :=
nwv w fun w1 =>
cl Pg F.kara_New [.agg #[.int .i64 t.1, .int .i64 t.2.1, .int .i64 t.2.2.1, .int .i64 t.2.2.2.1, .int .i64 t.2.2.2.2.1, .int .i64 t.2.2.2.2.2.1, .int .i64 t.2.2.2.2.2.2.1, .int .i64 t.2.2.2.2.2.2.2.1, .int .i64 t.2.2.2.2.2.2.2.2.1, .int .i64 t.2.2.2.2.2.2.2.2.2.1, .int .i64 t.2.2.2.2.2.2.2.2.2.2.1]] w1 [.one .ptr] fun (p : Option Addr) w2 =>
nwb w2 [.pointer p] T.toom_Engine fun b w3 =>
R (.pointer (some ⟨b, 0, none⟩)) w3
theorem Ct.toom_New {t : HL [.int .i64, .int .i64, .int .i64, .int .i64, .int .i64, .int .i64, .int .i64, .int .i64, .int .i64, .int .i64, .int .i64]} {w : TW} {X : Nat → Prop} {K : Tel (fl [.one .ptr]) (TW → Prop)} (h : Sh.toom_New t (Rt X [.one .ptr] K w) w.here) : Ct Pg F.toom_New [.agg (encs [.int .i64, .int .i64, .int .i64, .int .i64, .int .i64, .int .i64, .int .i64, .int .i64, .int .i64, .int .i64, .int .i64] t).toArray] w X [.one .ptr] K :=
  cod (Sh.toom_New t) 7 [(1, 7)] [(7, 11)] [] Go.Proofs.Tryz.f232 (by kernel_rfl) (by kernel_rfl) (by kernel_rfl) (fun _ _ => by kernel_rfl) h
end Go.Proofs.YticehedkalheiaaGreatDoor.Zg
end

section
set_option maxRecDepth 100000
namespace Go.Proofs.YticehedkalheiaaGreatDoor.Zg
def Sh.word_Inverse2 (d1 : Int) (d0 : Int) (R : Value → TW → Prop) (w : TW) : Prop :=
cl Pg F.word_Inverse [.int .u64 d1] w [.one (.int .u64), .one .bool] fun (r : Int) (ok : Bool) w1 =>
cond (!ok) (
R (.tuple #[.int .u64 0, .bool false]) w1) (
bnd (wu (d1 * r)) fun n =>
bnd (wu (n + d0)) fun n1 =>
Jn [.int .u64, .int .u64] (fun J0 =>
cond (decide ((n1 : Int) < d0)) (
bnd (wu (r - 1)) fun n2 =>
Jn [.int .u64, .int .u64] (fun J1 =>
cond (decide ((n1 : Int) ≥ d1)) (
bnd (wu (n2 - 1)) fun n3 =>
bnd (wu (n1 - d1)) fun n4 =>
J1 n3 n4 w1) (
J1 n2 n1 w1)) fun (v : Int) (p : Int) w2 =>
bnd (wu (p - d1)) fun n5 =>
J0 v n5 w2) (
J0 r n1 w1)) fun (v1 : Int) (p1 : Int) w3 =>
cl Pg F.bits_Mul64 [.int .u64 v1, .int .u64 d0] w3 [.one (.int .u64), .one (.int .u64)] fun (r1 : Int) (r2 : Int) w4 =>
bnd (wu (p1 + r1)) fun n6 =>
Jn [.int .u64] (fun J2 =>
cond (decide ((n6 : Int) < r1)) (
bnd (wu (v1 - 1)) fun n7 =>
Jn [.bool] (fun J3 =>
cond (decide ((n6 : Int) > d1)) (
J3 true w4) (
cond ((n6 : Int) == d1) (
J3 (decide ((r2 : Int) ≥ d0)) w4) (
J3 false w4))) fun (x : Bool) w5 =>
Jn [.int .u64] (fun J4 =>
cond x (
bnd (wu (n7 - 1)) fun n8 =>
J4 n8 w5) (
J4 n7 w5)) fun (v2 : Int) w6 =>
J2 v2 w6) (
J2 v1 w4)) fun (v3 : Int) w7 =>
R (.tuple #[.int .u64 v3, .bool true]) w7)
theorem Ct.word_Inverse2 {d1 : Int} {d0 : Int} {w : TW} {X : Nat → Prop} {K : Tel (fl [.one (.int .u64), .one .bool]) (TW → Prop)} (h : Sh.word_Inverse2 d1 d0 (Rt X [.one (.int .u64), .one .bool] K w) w.here) : Ct Pg F.word_Inverse2 [.int .u64 d1, .int .u64 d0] w X [.one (.int .u64), .one .bool] K :=
  cod (Sh.word_Inverse2 d1 d0) 69 [] [] [(1, 6, [(6, .one (.int .u64)), (8, .one (.int .u64))]), (1, 8, [(6, .one (.int .u64)), (8, .one (.int .u64))]), (1, 14, [(6, .one (.int .u64))]), (0, 15, [(65, .one .bool)]), (1, 16, [(6, .one (.int .u64))])] Go.Proofs.Tryz.f156 (by kernel_rfl) (by kernel_rfl) (by kernel_rfl) (fun _ _ => by kernel_rfl) h
def Sh.word_Inverse (d : Int) (R : Value → TW → Prop) (w : TW) : Prop :=
cond (decide ((d : Int) < 9223372036854775808)) (
R (.tuple #[.int .u64 0, .bool false]) w) (
bnd (bits2 .xor .u64 IntKind.u64.max d) fun n =>
cl Pg F.bits_Div64 [.int .u64 n, .int .u64 18446744073709551615, .int .u64 d] w [.one (.int .u64), .one (.int .u64)] fun (r : Int) (_ : Int) w1 =>
R (.tuple #[.int .u64 r, .bool true]) w1)
theorem Ct.word_Inverse {d : Int} {w : TW} {X : Nat → Prop} {K : Tel (fl [.one (.int .u64), .one .bool]) (TW → Prop)} (h : Sh.word_Inverse d (Rt X [.one (.int .u64), .one .bool] K w) w.here) : Ct Pg F.word_Inverse [.int .u64 d] w X [.one (.int .u64), .one .bool] K :=
  cod (Sh.word_Inverse d) 16 [] [] [] Go.Proofs.Tryz.f171 (by kernel_rfl) (by kernel_rfl) (by kernel_rfl) (fun _ _ => by kernel_rfl) h
def Sh.word_Div3 (a2 : Int) (a1 : Int) (a0 : Int) (d1 : Int) (d0 : Int) (v : Int) (R : Value → TW → Prop) (w : TW) : Prop :=
Jn [.bool] (fun J0 =>
cond (decide ((d1 : Int) < 9223372036854775808)) (
J0 true w) (
cl Pg F.word_below [.int .u64 a2, .int .u64 a1, .int .u64 d1, .int .u64 d0] w [.one .bool] fun (ok : Bool) w1 =>
J0 (!ok) w1)) fun (x : Bool) w2 =>
cond x (
R (.tuple #[.int .u64 0, .int .u64 0, .int .u64 0, .bool false]) w2) (
cl Pg F.bits_Mul64 [.int .u64 v, .int .u64 a2] w2 [.one (.int .u64), .one (.int .u64)] fun (r : Int) (r1 : Int) w3 =>
add64 r1 a1 0 fun s c =>
add64 r a2 c fun s1 _ =>
bnd (wu (s1 * d1)) fun n =>
bnd (wu (a1 - n)) fun n1 =>
cl Pg F.bits_Mul64 [.int .u64 d0, .int .u64 s1] w3 [.one (.int .u64), .one (.int .u64)] fun (r2 : Int) (r3 : Int) w4 =>
sub64 a0 r3 0 fun s2 c2 =>
sub64 n1 r2 c2 fun s3 _ =>
sub64 s2 d0 0 fun s4 c4 =>
sub64 s3 d1 c4 fun s5 _ =>
bnd (wu (s1 + 1)) fun n2 =>
Jn [.int .u64, .int .u64, .int .u64] (fun J1 =>
cond (decide ((s5 : Int) ≥ s)) (
bnd (wu (n2 - 1)) fun n3 =>
add64 s4 d0 0 fun s6 c6 =>
add64 s5 d1 c6 fun s7 _ =>
J1 s7 s6 n3 w4) (
J1 s5 s4 n2 w4)) fun (r11 : Int) (r0 : Int) (q1 : Int) w5 =>
cl Pg F.word_below [.int .u64 r11, .int .u64 r0, .int .u64 d1, .int .u64 d0] w5 [.one .bool] fun (ok1 : Bool) w6 =>
Jn [.int .u64, .int .u64, .int .u64] (fun J2 =>
cond (!ok1) (
bnd (wu (q1 + 1)) fun n4 =>
sub64 r0 d0 0 fun s8 c8 =>
sub64 r11 d1 c8 fun s9 _ =>
J2 s9 s8 n4 w6) (
J2 r11 r0 q1 w6)) fun (r12 : Int) (r01 : Int) (q11 : Int) w7 =>
R (.tuple #[.int .u64 q11, .int .u64 r12, .int .u64 r01, .bool true]) w7)
theorem Ct.word_Div3 {a2 : Int} {a1 : Int} {a0 : Int} {d1 : Int} {d0 : Int} {v : Int} {w : TW} {X : Nat → Prop} {K : Tel (fl [.one (.int .u64), .one (.int .u64), .one (.int .u64), .one .bool]) (TW → Prop)} (h : Sh.word_Div3 a2 a1 a0 d1 d0 v (Rt X [.one (.int .u64), .one (.int .u64), .one (.int .u64), .one .bool] K w) w.here) : Ct Pg F.word_Div3 [.int .u64 a2, .int .u64 a1, .int .u64 a0, .int .u64 d1, .int .u64 d0, .int .u64 v] w X [.one (.int .u64), .one (.int .u64), .one (.int .u64), .one .bool] K :=
  cod (Sh.word_Div3 a2 a1 a0 d1 d0 v) 131 [] [] [(0, 1, [(30, .one .bool)]), (1, 14, [(13, .one (.int .u64)), (14, .one (.int .u64)), (16, .one (.int .u64))]), (1, 18, [(13, .one (.int .u64)), (14, .one (.int .u64)), (16, .one (.int .u64))])] Go.Proofs.Tryz.f172 (by kernel_rfl) (by kernel_rfl) (by kernel_rfl) (fun _ _ => by kernel_rfl) h
def Sh.word_below (a1 : Int) (a0 : Int) (b1 : Int) (b0 : Int) (R : Value → TW → Prop) (w : TW) : Prop :=
Jn [.bool] (fun J0 =>
cond (decide ((a1 : Int) < b1)) (
J0 true w) (
cond ((a1 : Int) == b1) (
J0 (decide ((a0 : Int) < b0)) w) (
J0 false w))) fun (x : Bool) w1 =>
R (.bool x) w1
theorem Ct.word_below {a1 : Int} {a0 : Int} {b1 : Int} {b0 : Int} {w : TW} {X : Nat → Prop} {K : Tel (fl [.one .bool]) (TW → Prop)} (h : Sh.word_below a1 a0 b1 b0 (Rt X [.one .bool] K w) w.here) : Ct Pg F.word_below [.int .u64 a1, .int .u64 a0, .int .u64 b1, .int .u64 b0] w X [.one .bool] K :=
  cod (Sh.word_below a1 a0 b1 b0) 22 [] [] [(0, 1, [(8, .one .bool)])] Go.Proofs.Tryz.f189 (by kernel_rfl) (by kernel_rfl) (by kernel_rfl) (fun _ _ => by kernel_rfl) h
end Go.Proofs.YticehedkalheiaaGreatDoor.Zg
end

section
set_option maxRecDepth 100000
namespace Go.Proofs.YticehedkalheiaaGreatDoor.Zg
def Sh.zigguratkeep_Cut (a : Sl) (n : Int) (R : Value → TW → Prop) (w : TW) : Prop :=
bnd (if (n : Int) < (a.n : Int) then n else (a.n : Int)) fun n1 =>
slc a 0 n1 1 fun s =>
R (s.v) w
theorem Ct.zigguratkeep_Cut {a : Sl} {n : Int} {w : TW} {X : Nat → Prop} {K : Tel (fl [.one .slice]) (TW → Prop)} (h : Sh.zigguratkeep_Cut a n (Rt X [.one .slice] K w) w.here) : Ct Pg F.zigguratkeep_Cut [a.v, .int .i64 n] w X [.one .slice] K :=
  cod (Sh.zigguratkeep_Cut a n) 11 [] [] [] Go.Proofs.Tryz.f21 (by kernel_rfl) (by kernel_rfl) (by kernel_rfl) (fun _ _ => by kernel_rfl) h
def Sh.zigguratkeep_Int (a0 : Sl) (a1 : Bool) (b0 : Sl) (b1 : Bool) (R : Value → TW → Prop) (w : TW) : Prop :=
nwv w fun w1 =>
nwv w1 fun w2 =>
Jn [.bool] (fun J0 =>
cond (a1 == b1) (
cl Pg F.zigguratkeep_Same [a0.v, b0.v] w2 [.one .bool] fun (ok : Bool) w3 =>
J0 ok w3) (
J0 false w2)) fun (x : Bool) w4 =>
R (.bool x) w4
theorem Ct.zigguratkeep_Int {a0 : Sl} {a1 : Bool} {b0 : Sl} {b1 : Bool} {w : TW} {X : Nat → Prop} {K : Tel (fl [.one .bool]) (TW → Prop)} (h : Sh.zigguratkeep_Int a0 a1 b0 b1 (Rt X [.one .bool] K w) w.here) : Ct Pg F.zigguratkeep_Int [.agg #[a0.v, .bool a1], .agg #[b0.v, .bool b1]] w X [.one .bool] K :=
  cod (Sh.zigguratkeep_Int a0 a1 b0 b1) 17 [(2, 17), (3, 19)] [(17, 2), (19, 2)] [(0, 1, [(4, .one .bool)])] Go.Proofs.Tryz.f33 (by kernel_rfl) (by kernel_rfl) (by kernel_rfl) (fun _ _ => by kernel_rfl) h
def Sh.zigguratkeep_Same (a : Sl) (b : Sl) (R : Value → TW → Prop) (w : TW) : Prop :=
cond (((a.n : Int) : Int) != (b.n : Int)) (
R (.bool false) w) (
Jn [] (fun J0 =>
Lp [.int .i64] (fun (i : Int) w1 C0 =>
cond (decide ((i : Int) < (a.n : Int))) (
ixa a i 1 fun a1 =>
ldc (.int .u64) w1.drew a1 fun (v : Int) =>
ixa b i 1 fun a2 =>
ldc (.int .u64) w1.drew a2 fun (v1 : Int) =>
cond ((v : Int) != v1) (
R (.bool false) w1.drew) (
bnd (wi (i + 1)) fun n =>
C0 n w1.drew)) (
J0 w1)) 0 w) fun  w2 =>
R (.bool true) w2)
theorem Ct.zigguratkeep_Same {a : Sl} {b : Sl} {w : TW} {X : Nat → Prop} {K : Tel (fl [.one .bool]) (TW → Prop)} (h : Sh.zigguratkeep_Same a b (Rt X [.one .bool] K w) w.here) : Ct Pg F.zigguratkeep_Same [a.v, b.v] w X [.one .bool] K :=
  cod (Sh.zigguratkeep_Same a b) 26 [] [] [(2, 0, []), (3, 4, [(5, .one (.int .i64))])] Go.Proofs.Tryz.f37 (by kernel_rfl) (by kernel_rfl) (by kernel_rfl) (fun _ _ => by kernel_rfl) h
end Go.Proofs.YticehedkalheiaaGreatDoor.Zg
end

section
set_option maxRecDepth 100000
namespace Go.Proofs.YticehedkalheiaaGreatDoor.Zg
def Sh.zigguratlaw21_HgcdTimes (t : HL [.int .i64, .int .i64, .int .i64, .int .i64, .int .i64, .int .i64, .int .i64, .int .i64, .int .i64, .int .i64, .int .i64]) (l : Sl) (a : Sl) (b : Sl) (R : Value → TW → Prop) (w : TW) : Prop :=
nwv w fun w1 =>
cl Pg F.zigguratkeep_Cut [a.v, .int .i64 4] w1 [.one .slice] fun (s : Sl) w2 =>
cl Pg F.zigguratkeep_Cut [b.v, .int .i64 4] w2 [.one .slice] fun (s1 : Sl) w3 =>
cl Pg F.hgcd_New [.agg #[.int .i64 t.1, .int .i64 t.2.1, .int .i64 t.2.2.1, .int .i64 t.2.2.2.1, .int .i64 t.2.2.2.2.1, .int .i64 t.2.2.2.2.2.1, .int .i64 t.2.2.2.2.2.2.1, .int .i64 t.2.2.2.2.2.2.2.1, .int .i64 t.2.2.2.2.2.2.2.2.1, .int .i64 t.2.2.2.2.2.2.2.2.2.1, .int .i64 t.2.2.2.2.2.2.2.2.2.2.1]] w3 [.one .ptr] fun (p : Option Addr) w4 =>
cond (Option.isNone p) (
R (.bool false) w4) (
bnd (wi ((l.n : Int) + 3)) fun n =>
divK .i64 n 4 fun n1 =>
bnd (if (5 : Int) < n1 then 5 else n1) fun n2 =>
cl Pg F.zigguratref17_Unit [] w4 [.agg [.slice, .slice, .slice, .slice]] fun (r : Sl) (r1 : Sl) (r2 : Sl) (r3 : Sl) w5 =>
nwv w5 fun w6 =>
nwv w6 fun w7 =>
Jn [.slice, .slice, .slice, .slice, .slice] (fun J0 =>
Lp [.slice, .int .i64, .slice, .slice, .slice, .slice] (fun (ms : Sl) (i : Int) (m : Sl) (m1 : Sl) (m2 : Sl) (m3 : Sl) w8 C0 =>
cond (decide ((i : Int) < n2)) (
cl Pg F.zigguratlaw21_matrix [l.v, .int .i64 i] w8 [.agg [.slice, .slice, .slice, .slice]] fun (r4 : Sl) (r5 : Sl) (r6 : Sl) (r7 : Sl) w9 =>
nwb w9 [r4.v, r5.v, r6.v, r7.v] T.api_Matrix fun b1 w10 =>
apd w10 T.api_Matrix 4 96 ms ⟨(some ⟨b1, 0, none⟩), 1, 1⟩ fun s2 w11 =>
ixa s2 i 4 fun a1 =>
ldc (.slice) w11.drew (a1.add 0) fun (v : Sl) =>
ldc (.slice) w11.drew (a1.add 1) fun (v1 : Sl) =>
ldc (.slice) w11.drew (a1.add 2) fun (v2 : Sl) =>
ldc (.slice) w11.drew (a1.add 3) fun (v3 : Sl) =>
cl Pg F.zigguratref17_FromM [.agg #[v.v, v1.v, v2.v, v3.v]] w11.drew [.agg [.slice, .slice, .slice, .slice]] fun (r8 : Sl) (r9 : Sl) (r10 : Sl) (r11 : Sl) w12 =>
cl Pg F.zigguratref17_Times [.agg #[m.v, m1.v, m2.v, m3.v], .agg #[r8.v, r9.v, r10.v, r11.v]] w12 [.agg [.slice, .slice, .slice, .slice]] fun (r12 : Sl) (r13 : Sl) (r14 : Sl) (r15 : Sl) w13 =>
nwv w13 fun w14 =>
bnd (wi (i + 1)) fun n3 =>
C0 s2 n3 r12 r13 r14 r15 w14) (
J0 ms m m1 m2 m3 w8)) Sl.nil 0 r r1 r2 r3 w7) fun (ms1 : Sl) (m4 : Sl) (m5 : Sl) (m6 : Sl) (m7 : Sl) w15 =>
cl Pg F.hgcd_Engine_Times [.pointer p, ms1.v] w15 [.agg [.slice, .slice, .slice, .slice]] fun (r16 : Sl) (r17 : Sl) (r18 : Sl) (r19 : Sl) w16 =>
nwv w16 fun w17 =>
nwv w17 fun w18 =>
cl Pg F.hgcd_Engine_Apply [.pointer p, .agg #[r16.v, r17.v, r18.v, r19.v], s.v, s1.v] w18 [.one .slice, .one .slice] fun (s3 : Sl) (s4 : Sl) w19 =>
cl Pg F.zigguratlaw21_from [s.v] w19.drew [.one .slice] fun (s5 : Sl) w20 =>
cl Pg F.zigguratlaw21_from [s1.v] w20 [.one .slice] fun (s6 : Sl) w21 =>
cl Pg F.zigguratref17_Apply [.agg #[m4.v, m5.v, m6.v, m7.v], s5.v, s6.v] w21 [.one .slice, .one .slice] fun (s7 : Sl) (s8 : Sl) w22 =>
Jn [.bool] (fun J1 =>
cl Pg F.zigguratref17_SameM [.agg #[m4.v, m5.v, m6.v, m7.v], .agg #[r16.v, r17.v, r18.v, r19.v]] w22 [.one .bool] fun (ok : Bool) w23 =>
cond ok (
cl Pg F.zigguratref02_Same [s7.v, s3.v] w23 [.one .bool] fun (ok1 : Bool) w24 =>
cond ok1 (
cl Pg F.zigguratref02_Same [s8.v, s4.v] w24 [.one .bool] fun (ok2 : Bool) w25 =>
cond ok2 (
cl Pg F.zigguratlaw21_wakes [] w25 [.one .bool] fun (ok3 : Bool) w26 =>
J1 ok3 w26) (
J1 false w25)) (
J1 false w24)) (
J1 false w23)) fun (x : Bool) w27 =>
R (.bool x) w27)
theorem Ct.zigguratlaw21_HgcdTimes {t : HL [.int .i64, .int .i64, .int .i64, .int .i64, .int .i64, .int .i64, .int .i64, .int .i64, .int .i64, .int .i64, .int .i64]} {l : Sl} {a : Sl} {b : Sl} {w : TW} {X : Nat → Prop} {K : Tel (fl [.one .bool]) (TW → Prop)} (h : Sh.zigguratlaw21_HgcdTimes t l a b (Rt X [.one .bool] K w) w.here) : Ct Pg F.zigguratlaw21_HgcdTimes [.agg (encs [.int .i64, .int .i64, .int .i64, .int .i64, .int .i64, .int .i64, .int .i64, .int .i64, .int .i64, .int .i64, .int .i64] t).toArray, l.v, a.v, b.v] w X [.one .bool] K :=
  cod (Sh.zigguratlaw21_HgcdTimes t l a b) 87 [(4, 87), (12, 98), (14, 102)] [(87, 11), (98, 4), (102, 4)] [(2, 0, [(11, .one .slice), (98, .one .slice), (99, .one .slice), (100, .one .slice), (101, .one .slice)]), (3, 9, [(11, .one .slice), (13, .one (.int .i64)), (98, .one .slice), (99, .one .slice), (100, .one .slice), (101, .one .slice)]), (0, 16, [(8, .one .bool)])] Go.Proofs.Tryz.f10 (by kernel_rfl) (by kernel_rfl) (by kernel_rfl) (fun _ _ => by kernel_rfl) h
def Sh.zigguratlaw21_HgcdBezout (t : HL [.int .i64, .int .i64, .int .i64, .int .i64, .int .i64, .int .i64, .int .i64, .int .i64, .int .i64, .int .i64, .int .i64]) (a : Sl) (b : Sl) (c : Sl) (R : Value → TW → Prop) (w : TW) : Prop :=
nwv w fun w1 =>
cl Pg F.zigguratkeep_Cut [a.v, .int .i64 24] w1 [.one .slice] fun (s : Sl) w2 =>
cl Pg F.zigguratkeep_Cut [b.v, .int .i64 24] w2 [.one .slice] fun (s1 : Sl) w3 =>
cl Pg F.zigguratkeep_Cut [c.v, .int .i64 8] w3 [.one .slice] fun (s2 : Sl) w4 =>
cl Pg F.zigguratlaw21_from [s.v] w4 [.one .slice] fun (s3 : Sl) w5 =>
cl Pg F.zigguratlaw21_from [s2.v] w5 [.one .slice] fun (s4 : Sl) w6 =>
cl Pg F.zigguratref02_Mul [s3.v, s4.v] w6 [.one .slice] fun (s5 : Sl) w7 =>
cl Pg F.zigguratref02_To [s5.v] w7 [.one .slice] fun (s6 : Sl) w8 =>
cl Pg F.zigguratlaw21_from [s1.v] w8 [.one .slice] fun (s7 : Sl) w9 =>
cl Pg F.zigguratlaw21_from [s2.v] w9 [.one .slice] fun (s8 : Sl) w10 =>
cl Pg F.zigguratref02_Mul [s7.v, s8.v] w10 [.one .slice] fun (s9 : Sl) w11 =>
cl Pg F.zigguratref02_To [s9.v] w11 [.one .slice] fun (s10 : Sl) w12 =>
cl Pg F.hgcd_New [.agg #[.int .i64 t.1, .int .i64 t.2.1, .int .i64 t.2.2.1, .int .i64 t.2.2.2.1, .int .i64 t.2.2.2.2.1, .int .i64 t.2.2.2.2.2.1, .int .i64 t.2.2.2.2.2.2.1, .int .i64 t.2.2.2.2.2.2.2.1, .int .i64 t.2.2.2.2.2.2.2.2.1, .int .i64 t.2.2.2.2.2.2.2.2.2.1, .int .i64 t.2.2.2.2.2.2.2.2.2.2.1]] w12 [.one .ptr] fun (p : Option Addr) w13 =>
cond (Option.isNone p) (
R (.bool false) w13) (
cl Pg F.hgcd_Engine_Xgcd [.pointer p, s6.v, s10.v] w13 [.one .slice, .agg [.slice, .bool], .agg [.slice, .bool]] fun (s11 : Sl) (r : Sl) (r1 : Bool) (r2 : Sl) (r3 : Bool) w14 =>
nwv w14 fun w15 =>
nwv w15 fun w16 =>
nwv w16 fun w17 =>
nwv w17 fun w18 =>
(cl Pg F.zigguratref17_From [.agg #[s6.v, .bool false]] w18.drew [.agg [.slice, .bool]] fun (r4 : Sl) (r5 : Bool) w19 =>
(cl Pg F.zigguratref17_From [.agg #[r.v, .bool r1]] w19 [.agg [.slice, .bool]] fun (r6 : Sl) (r7 : Bool) w20 =>
(cl Pg F.zigguratref17_Mul [.agg #[r4.v, .bool r5], .agg #[r6.v, .bool r7]] w20 [.agg [.slice, .bool]] fun (r8 : Sl) (r9 : Bool) w21 =>
(cl Pg F.zigguratref17_From [.agg #[s10.v, .bool false]] w21 [.agg [.slice, .bool]] fun (r10 : Sl) (r11 : Bool) w22 =>
(cl Pg F.zigguratref17_From [.agg #[r2.v, .bool r3]] w22 [.agg [.slice, .bool]] fun (r12 : Sl) (r13 : Bool) w23 =>
(cl Pg F.zigguratref17_Mul [.agg #[r10.v, .bool r11], .agg #[r12.v, .bool r13]] w23 [.agg [.slice, .bool]] fun (r14 : Sl) (r15 : Bool) w24 =>
(cl Pg F.zigguratref17_Add [.agg #[r8.v, .bool r9], .agg #[r14.v, .bool r15]] w24 [.agg [.slice, .bool]] fun (r16 : Sl) (r17 : Bool) w25 =>
nwv w25 fun w26 =>
nwv w26 fun w27 =>
Jn [.bool] (fun J0 =>
cl Pg F.zigguratref17_To [.agg #[r16.v, .bool r17]] w27 [.agg [.slice, .bool]] fun (r18 : Sl) (r19 : Bool) w28 =>
cl Pg F.zigguratkeep_Int [.agg #[s11.v, .bool false], .agg #[r18.v, .bool r19]] w28 [.one .bool] fun (ok : Bool) w29 =>
cond ok (
nck p fun a1 =>
ldc (.ptr) w29 a1 fun (v : Option Addr) =>
nwb w29 [s6.v, s10.v] T.api_Nat fun b1 w30 =>
cl Pg F.gcd_Engine_Gcd [.pointer v, .slice (some ⟨b1, 0, none⟩) 2 2] w30 [.one .slice] fun (s12 : Sl) w31 =>
cl Pg F.zigguratkeep_Same [s11.v, s12.v] w31 [.one .bool] fun (ok1 : Bool) w32 =>
cond ok1 (
cl Pg F.zigguratlaw21_wakes [] w32 [.one .bool] fun (ok2 : Bool) w33 =>
J0 ok2 w33) (
J0 false w32)) (
J0 false w29)) fun (x : Bool) w34 =>
R (.bool x) w34) ∧
(nwv w24 fun w35 =>
cl Pg F.zigguratref17_Add [.agg #[r8.v, .bool r9], .agg #[r14.v, .bool r15]] w35 [.agg [.slice, .bool]] fun (r20 : Sl) (r21 : Bool) w36 =>
nwv w36 fun w37 =>
Jn [.bool] (fun J1 =>
cl Pg F.zigguratref17_To [.agg #[r20.v, .bool r21]] w37 [.agg [.slice, .bool]] fun (r22 : Sl) (r23 : Bool) w38 =>
cl Pg F.zigguratkeep_Int [.agg #[s11.v, .bool false], .agg #[r22.v, .bool r23]] w38 [.one .bool] fun (ok3 : Bool) w39 =>
cond ok3 (
nck p fun a2 =>
ldc (.ptr) w39 a2 fun (v1 : Option Addr) =>
nwb w39 [s6.v, s10.v] T.api_Nat fun b2 w40 =>
cl Pg F.gcd_Engine_Gcd [.pointer v1, .slice (some ⟨b2, 0, none⟩) 2 2] w40 [.one .slice] fun (s13 : Sl) w41 =>
cl Pg F.zigguratkeep_Same [s11.v, s13.v] w41 [.one .bool] fun (ok4 : Bool) w42 =>
cond ok4 (
cl Pg F.zigguratlaw21_wakes [] w42 [.one .bool] fun (ok5 : Bool) w43 =>
J1 ok5 w43) (
J1 false w42)) (
J1 false w39)) fun (x1 : Bool) w44 =>
R (.bool x1) w44)) ∧
(nwv w23 fun w45 =>
cl Pg F.zigguratref17_Mul [.agg #[r10.v, .bool r11], .agg #[r12.v, .bool r13]] w45 [.agg [.slice, .bool]] fun (r24 : Sl) (r25 : Bool) w46 =>
cl Pg F.zigguratref17_Add [.agg #[r8.v, .bool r9], .agg #[r24.v, .bool r25]] w46 [.agg [.slice, .bool]] fun (r26 : Sl) (r27 : Bool) w47 =>
nwv w47 fun w48 =>
Jn [.bool] (fun J2 =>
cl Pg F.zigguratref17_To [.agg #[r26.v, .bool r27]] w48 [.agg [.slice, .bool]] fun (r28 : Sl) (r29 : Bool) w49 =>
cl Pg F.zigguratkeep_Int [.agg #[s11.v, .bool false], .agg #[r28.v, .bool r29]] w49 [.one .bool] fun (ok6 : Bool) w50 =>
cond ok6 (
nck p fun a3 =>
ldc (.ptr) w50 a3 fun (v2 : Option Addr) =>
nwb w50 [s6.v, s10.v] T.api_Nat fun b3 w51 =>
cl Pg F.gcd_Engine_Gcd [.pointer v2, .slice (some ⟨b3, 0, none⟩) 2 2] w51 [.one .slice] fun (s14 : Sl) w52 =>
cl Pg F.zigguratkeep_Same [s11.v, s14.v] w52 [.one .bool] fun (ok7 : Bool) w53 =>
cond ok7 (
cl Pg F.zigguratlaw21_wakes [] w53 [.one .bool] fun (ok8 : Bool) w54 =>
J2 ok8 w54) (
J2 false w53)) (
J2 false w50)) fun (x2 : Bool) w55 =>
R (.bool x2) w55)) ∧
(nwv w22 fun w56 =>
cl Pg F.zigguratref17_From [.agg #[r2.v, .bool r3]] w56 [.agg [.slice, .bool]] fun (r30 : Sl) (r31 : Bool) w57 =>
cl Pg F.zigguratref17_Mul [.agg #[r10.v, .bool r11], .agg #[r30.v, .bool r31]] w57 [.agg [.slice, .bool]] fun (r32 : Sl) (r33 : Bool) w58 =>
cl Pg F.zigguratref17_Add [.agg #[r8.v, .bool r9], .agg #[r32.v, .bool r33]] w58 [.agg [.slice, .bool]] fun (r34 : Sl) (r35 : Bool) w59 =>
nwv w59 fun w60 =>
Jn [.bool] (fun J3 =>
cl Pg F.zigguratref17_To [.agg #[r34.v, .bool r35]] w60 [.agg [.slice, .bool]] fun (r36 : Sl) (r37 : Bool) w61 =>
cl Pg F.zigguratkeep_Int [.agg #[s11.v, .bool false], .agg #[r36.v, .bool r37]] w61 [.one .bool] fun (ok9 : Bool) w62 =>
cond ok9 (
nck p fun a4 =>
ldc (.ptr) w62 a4 fun (v3 : Option Addr) =>
nwb w62 [s6.v, s10.v] T.api_Nat fun b4 w63 =>
cl Pg F.gcd_Engine_Gcd [.pointer v3, .slice (some ⟨b4, 0, none⟩) 2 2] w63 [.one .slice] fun (s15 : Sl) w64 =>
cl Pg F.zigguratkeep_Same [s11.v, s15.v] w64 [.one .bool] fun (ok10 : Bool) w65 =>
cond ok10 (
cl Pg F.zigguratlaw21_wakes [] w65 [.one .bool] fun (ok11 : Bool) w66 =>
J3 ok11 w66) (
J3 false w65)) (
J3 false w62)) fun (x3 : Bool) w67 =>
R (.bool x3) w67)) ∧
(nwv w21 fun w68 =>
cl Pg F.zigguratref17_From [.agg #[s10.v, .bool false]] w68 [.agg [.slice, .bool]] fun (r38 : Sl) (r39 : Bool) w69 =>
cl Pg F.zigguratref17_From [.agg #[r2.v, .bool r3]] w69 [.agg [.slice, .bool]] fun (r40 : Sl) (r41 : Bool) w70 =>
cl Pg F.zigguratref17_Mul [.agg #[r38.v, .bool r39], .agg #[r40.v, .bool r41]] w70 [.agg [.slice, .bool]] fun (r42 : Sl) (r43 : Bool) w71 =>
cl Pg F.zigguratref17_Add [.agg #[r8.v, .bool r9], .agg #[r42.v, .bool r43]] w71 [.agg [.slice, .bool]] fun (r44 : Sl) (r45 : Bool) w72 =>
nwv w72 fun w73 =>
Jn [.bool] (fun J4 =>
cl Pg F.zigguratref17_To [.agg #[r44.v, .bool r45]] w73 [.agg [.slice, .bool]] fun (r46 : Sl) (r47 : Bool) w74 =>
cl Pg F.zigguratkeep_Int [.agg #[s11.v, .bool false], .agg #[r46.v, .bool r47]] w74 [.one .bool] fun (ok12 : Bool) w75 =>
cond ok12 (
nck p fun a5 =>
ldc (.ptr) w75 a5 fun (v4 : Option Addr) =>
nwb w75 [s6.v, s10.v] T.api_Nat fun b5 w76 =>
cl Pg F.gcd_Engine_Gcd [.pointer v4, .slice (some ⟨b5, 0, none⟩) 2 2] w76 [.one .slice] fun (s16 : Sl) w77 =>
cl Pg F.zigguratkeep_Same [s11.v, s16.v] w77 [.one .bool] fun (ok13 : Bool) w78 =>
cond ok13 (
cl Pg F.zigguratlaw21_wakes [] w78 [.one .bool] fun (ok14 : Bool) w79 =>
J4 ok14 w79) (
J4 false w78)) (
J4 false w75)) fun (x4 : Bool) w80 =>
R (.bool x4) w80)) ∧
(nwv w20 fun w81 =>
cl Pg F.zigguratref17_Mul [.agg #[r4.v, .bool r5], .agg #[r6.v, .bool r7]] w81 [.agg [.slice, .bool]] fun (r48 : Sl) (r49 : Bool) w82 =>
cl Pg F.zigguratref17_From [.agg #[s10.v, .bool false]] w82 [.agg [.slice, .bool]] fun (r50 : Sl) (r51 : Bool) w83 =>
cl Pg F.zigguratref17_From [.agg #[r2.v, .bool r3]] w83 [.agg [.slice, .bool]] fun (r52 : Sl) (r53 : Bool) w84 =>
cl Pg F.zigguratref17_Mul [.agg #[r50.v, .bool r51], .agg #[r52.v, .bool r53]] w84 [.agg [.slice, .bool]] fun (r54 : Sl) (r55 : Bool) w85 =>
cl Pg F.zigguratref17_Add [.agg #[r48.v, .bool r49], .agg #[r54.v, .bool r55]] w85 [.agg [.slice, .bool]] fun (r56 : Sl) (r57 : Bool) w86 =>
nwv w86 fun w87 =>
Jn [.bool] (fun J5 =>
cl Pg F.zigguratref17_To [.agg #[r56.v, .bool r57]] w87 [.agg [.slice, .bool]] fun (r58 : Sl) (r59 : Bool) w88 =>
cl Pg F.zigguratkeep_Int [.agg #[s11.v, .bool false], .agg #[r58.v, .bool r59]] w88 [.one .bool] fun (ok15 : Bool) w89 =>
cond ok15 (
nck p fun a6 =>
ldc (.ptr) w89 a6 fun (v5 : Option Addr) =>
nwb w89 [s6.v, s10.v] T.api_Nat fun b6 w90 =>
cl Pg F.gcd_Engine_Gcd [.pointer v5, .slice (some ⟨b6, 0, none⟩) 2 2] w90 [.one .slice] fun (s17 : Sl) w91 =>
cl Pg F.zigguratkeep_Same [s11.v, s17.v] w91 [.one .bool] fun (ok16 : Bool) w92 =>
cond ok16 (
cl Pg F.zigguratlaw21_wakes [] w92 [.one .bool] fun (ok17 : Bool) w93 =>
J5 ok17 w93) (
J5 false w92)) (
J5 false w89)) fun (x5 : Bool) w94 =>
R (.bool x5) w94)) ∧
(nwv w19 fun w95 =>
cl Pg F.zigguratref17_From [.agg #[r.v, .bool r1]] w95 [.agg [.slice, .bool]] fun (r60 : Sl) (r61 : Bool) w96 =>
cl Pg F.zigguratref17_Mul [.agg #[r4.v, .bool r5], .agg #[r60.v, .bool r61]] w96 [.agg [.slice, .bool]] fun (r62 : Sl) (r63 : Bool) w97 =>
cl Pg F.zigguratref17_From [.agg #[s10.v, .bool false]] w97 [.agg [.slice, .bool]] fun (r64 : Sl) (r65 : Bool) w98 =>
cl Pg F.zigguratref17_From [.agg #[r2.v, .bool r3]] w98 [.agg [.slice, .bool]] fun (r66 : Sl) (r67 : Bool) w99 =>
cl Pg F.zigguratref17_Mul [.agg #[r64.v, .bool r65], .agg #[r66.v, .bool r67]] w99 [.agg [.slice, .bool]] fun (r68 : Sl) (r69 : Bool) w100 =>
cl Pg F.zigguratref17_Add [.agg #[r62.v, .bool r63], .agg #[r68.v, .bool r69]] w100 [.agg [.slice, .bool]] fun (r70 : Sl) (r71 : Bool) w101 =>
nwv w101 fun w102 =>
Jn [.bool] (fun J6 =>
cl Pg F.zigguratref17_To [.agg #[r70.v, .bool r71]] w102 [.agg [.slice, .bool]] fun (r72 : Sl) (r73 : Bool) w103 =>
cl Pg F.zigguratkeep_Int [.agg #[s11.v, .bool false], .agg #[r72.v, .bool r73]] w103 [.one .bool] fun (ok18 : Bool) w104 =>
cond ok18 (
nck p fun a7 =>
ldc (.ptr) w104 a7 fun (v6 : Option Addr) =>
nwb w104 [s6.v, s10.v] T.api_Nat fun b7 w105 =>
cl Pg F.gcd_Engine_Gcd [.pointer v6, .slice (some ⟨b7, 0, none⟩) 2 2] w105 [.one .slice] fun (s18 : Sl) w106 =>
cl Pg F.zigguratkeep_Same [s11.v, s18.v] w106 [.one .bool] fun (ok19 : Bool) w107 =>
cond ok19 (
cl Pg F.zigguratlaw21_wakes [] w107 [.one .bool] fun (ok20 : Bool) w108 =>
J6 ok20 w108) (
J6 false w107)) (
J6 false w104)) fun (x6 : Bool) w109 =>
R (.bool x6) w109)) ∧
(nwv w18.drew fun w110 =>
cl Pg F.zigguratref17_From [.agg #[s6.v, .bool false]] w110 [.agg [.slice, .bool]] fun (r74 : Sl) (r75 : Bool) w111 =>
cl Pg F.zigguratref17_From [.agg #[r.v, .bool r1]] w111 [.agg [.slice, .bool]] fun (r76 : Sl) (r77 : Bool) w112 =>
cl Pg F.zigguratref17_Mul [.agg #[r74.v, .bool r75], .agg #[r76.v, .bool r77]] w112 [.agg [.slice, .bool]] fun (r78 : Sl) (r79 : Bool) w113 =>
cl Pg F.zigguratref17_From [.agg #[s10.v, .bool false]] w113 [.agg [.slice, .bool]] fun (r80 : Sl) (r81 : Bool) w114 =>
cl Pg F.zigguratref17_From [.agg #[r2.v, .bool r3]] w114 [.agg [.slice, .bool]] fun (r82 : Sl) (r83 : Bool) w115 =>
cl Pg F.zigguratref17_Mul [.agg #[r80.v, .bool r81], .agg #[r82.v, .bool r83]] w115 [.agg [.slice, .bool]] fun (r84 : Sl) (r85 : Bool) w116 =>
cl Pg F.zigguratref17_Add [.agg #[r78.v, .bool r79], .agg #[r84.v, .bool r85]] w116 [.agg [.slice, .bool]] fun (r86 : Sl) (r87 : Bool) w117 =>
nwv w117 fun w118 =>
Jn [.bool] (fun J7 =>
cl Pg F.zigguratref17_To [.agg #[r86.v, .bool r87]] w118 [.agg [.slice, .bool]] fun (r88 : Sl) (r89 : Bool) w119 =>
cl Pg F.zigguratkeep_Int [.agg #[s11.v, .bool false], .agg #[r88.v, .bool r89]] w119 [.one .bool] fun (ok21 : Bool) w120 =>
cond ok21 (
nck p fun a8 =>
ldc (.ptr) w120 a8 fun (v7 : Option Addr) =>
nwb w120 [s6.v, s10.v] T.api_Nat fun b8 w121 =>
cl Pg F.gcd_Engine_Gcd [.pointer v7, .slice (some ⟨b8, 0, none⟩) 2 2] w121 [.one .slice] fun (s19 : Sl) w122 =>
cl Pg F.zigguratkeep_Same [s11.v, s19.v] w122 [.one .bool] fun (ok22 : Bool) w123 =>
cond ok22 (
cl Pg F.zigguratlaw21_wakes [] w123 [.one .bool] fun (ok23 : Bool) w124 =>
J7 ok23 w124) (
J7 false w123)) (
J7 false w120)) fun (x7 : Bool) w125 =>
R (.bool x7) w125))
theorem Ct.zigguratlaw21_HgcdBezout {t : HL [.int .i64, .int .i64, .int .i64, .int .i64, .int .i64, .int .i64, .int .i64, .int .i64, .int .i64, .int .i64, .int .i64]} {a : Sl} {b : Sl} {c : Sl} {w : TW} {X : Nat → Prop} {K : Tel (fl [.one .bool]) (TW → Prop)} (h : Sh.zigguratlaw21_HgcdBezout t a b c (Rt X [.one .bool] K w) w.here) : Ct Pg F.zigguratlaw21_HgcdBezout [.agg (encs [.int .i64, .int .i64, .int .i64, .int .i64, .int .i64, .int .i64, .int .i64, .int .i64, .int .i64, .int .i64, .int .i64] t).toArray, a.v, b.v, c.v] w X [.one .bool] K :=
  cod (Sh.zigguratlaw21_HgcdBezout t a b c) 77 [(4, 77), (11, 88), (12, 90), (13, 92)] [(77, 11), (88, 2), (90, 2), (92, 2)] [(0, 9, [(8, .one .bool)])] Go.Proofs.Tryz.f14 (by kernel_rfl) (by kernel_rfl) (by kernel_rfl) (fun _ _ => by kernel_rfl) h
def Sh.zigguratlaw21_from (a : Sl) (R : Value → TW → Prop) (w : TW) : Prop :=
cl Pg F.zigguratref02_From [a.v] w [.one .slice] fun (s : Sl) w1 =>
R (s.v) w1
theorem Ct.zigguratlaw21_from {a : Sl} {w : TW} {X : Nat → Prop} {K : Tel (fl [.one .slice]) (TW → Prop)} (h : Sh.zigguratlaw21_from a (Rt X [.one .slice] K w) w.here) : Ct Pg F.zigguratlaw21_from [a.v] w X [.one .slice] K :=
  cod (Sh.zigguratlaw21_from a) 5 [] [] [] Go.Proofs.Tryz.f26 (by kernel_rfl) (by kernel_rfl) (by kernel_rfl) (fun _ _ => by kernel_rfl) h
def Sh.zigguratlaw21_wakes (R : Value → TW → Prop) (w : TW) : Prop :=
cl Pg F.hgcd_New [.agg #[.int .i64 0, .int .i64 0, .int .i64 0, .int .i64 0, .int .i64 0, .int .i64 0, .int .i64 0, .int .i64 0, .int .i64 0, .int .i64 0, .int .i64 0]] w [.one .ptr] fun (p : Option Addr) w1 =>
cond (Option.isNone p) (
R (.bool false) w1) (
nwb w1 [.int .u64 6] T.uint64 fun b w2 =>
nwb w2 [.int .u64 4] T.uint64 fun b1 w3 =>
cl Pg F.hgcd_Engine_Xgcd [.pointer p, .slice (some ⟨b, 0, none⟩) 1 1, .slice (some ⟨b1, 0, none⟩) 1 1] w3 [.one .slice, .agg [.slice, .bool], .agg [.slice, .bool]] fun (s : Sl) (r : Sl) (r1 : Bool) (r2 : Sl) (r3 : Bool) w4 =>
nwv w4 fun w5 =>
nwv w5 fun w6 =>
nwv w6 fun w7 =>
nwv w7 fun w8 =>
Jn [.bool] (fun J0 =>
nwb w8.drew [.int .u64 2] T.uint64 fun b2 w9 =>
cl Pg F.zigguratkeep_Same [s.v, .slice (some ⟨b2, 0, none⟩) 1 1] w9 [.one .bool] fun (ok : Bool) w10 =>
cond ok (
cl Pg F.num_Of [.int .i64 1] w10 [.agg [.slice, .bool]] fun (r4 : Sl) (r5 : Bool) w11 =>
cl Pg F.zigguratkeep_Int [.agg #[r.v, .bool r1], .agg #[r4.v, .bool r5]] w11 [.one .bool] fun (ok1 : Bool) w12 =>
cond ok1 (
cl Pg F.num_Of [.int .i64 (-1)] w12 [.agg [.slice, .bool]] fun (r6 : Sl) (r7 : Bool) w13 =>
cl Pg F.zigguratkeep_Int [.agg #[r2.v, .bool r3], .agg #[r6.v, .bool r7]] w13 [.one .bool] fun (ok2 : Bool) w14 =>
cond ok2 (
cl Pg F.zigguratref17_Unit [] w14 [.agg [.slice, .slice, .slice, .slice]] fun (r8 : Sl) (r9 : Sl) (r10 : Sl) (r11 : Sl) w15 =>
cl Pg F.hgcd_Unit [] w15 [.agg [.slice, .slice, .slice, .slice]] fun (r12 : Sl) (r13 : Sl) (r14 : Sl) (r15 : Sl) w16 =>
cl Pg F.zigguratref17_SameM [.agg #[r8.v, r9.v, r10.v, r11.v], .agg #[r12.v, r13.v, r14.v, r15.v]] w16 [.one .bool] fun (ok3 : Bool) w17 =>
J0 ok3 w17) (
J0 false w14)) (
J0 false w12)) (
J0 false w10)) fun (x : Bool) w18 =>
R (.bool x) w18)
theorem Ct.zigguratlaw21_wakes {w : TW} {X : Nat → Prop} {K : Tel (fl [.one .bool]) (TW → Prop)} (h : Sh.zigguratlaw21_wakes (Rt X [.one .bool] K w) w.here) : Ct Pg F.zigguratlaw21_wakes [] w X [.one .bool] K :=
  cod Sh.zigguratlaw21_wakes 35 [(3, 35), (4, 37)] [(35, 2), (37, 2)] [(0, 5, [(0, .one .bool)])] Go.Proofs.Tryz.f30 (by kernel_rfl) (by kernel_rfl) (by kernel_rfl) (fun _ _ => by kernel_rfl) h
def Sh.zigguratlaw21_matrix (l : Sl) (i : Int) (R : Value → TW → Prop) (w : TW) : Prop :=
nwb w [l.v] T.s_s_uint64 fun b w1 =>
nwb w1 [.int .i64 i] T.int fun b1 w2 =>
nwv w2 fun w3 =>
clv Pg (.func (.func F.zigguratlaw21_matrix_1) #[] #[.pointer (some ⟨b1, 0, none⟩), .pointer (some ⟨b, 0, none⟩)]) [.int .i64 0] w3 [.one .slice] fun (s : Sl) w4 =>
clv Pg (.func (.func F.zigguratlaw21_matrix_1) #[] #[.pointer (some ⟨b1, 0, none⟩), .pointer (some ⟨b, 0, none⟩)]) [.int .i64 1] w4 [.one .slice] fun (s1 : Sl) w5 =>
clv Pg (.func (.func F.zigguratlaw21_matrix_1) #[] #[.pointer (some ⟨b1, 0, none⟩), .pointer (some ⟨b, 0, none⟩)]) [.int .i64 2] w5 [.one .slice] fun (s2 : Sl) w6 =>
clv Pg (.func (.func F.zigguratlaw21_matrix_1) #[] #[.pointer (some ⟨b1, 0, none⟩), .pointer (some ⟨b, 0, none⟩)]) [.int .i64 3] w6 [.one .slice] fun (s3 : Sl) w7 =>
nwv w7 fun w8 =>
R (.agg #[s.v, s1.v, s2.v, s3.v]) w8
theorem Ct.zigguratlaw21_matrix {l : Sl} {i : Int} {w : TW} {X : Nat → Prop} {K : Tel (fl [.agg [.slice, .slice, .slice, .slice]]) (TW → Prop)} (h : Sh.zigguratlaw21_matrix l i (Rt X [.agg [.slice, .slice, .slice, .slice]] K w) w.here) : Ct Pg F.zigguratlaw21_matrix [l.v, .int .i64 i] w X [.agg [.slice, .slice, .slice, .slice]] K :=
  cod (Sh.zigguratlaw21_matrix l i) 16 [(4, 16)] [(16, 4)] [] Go.Proofs.Tryz.f59 (by kernel_rfl) (by kernel_rfl) (by kernel_rfl) (fun _ _ => by kernel_rfl) h
def Sh.zigguratlaw21_matrix_1 (k : Int) (cap : Addr) (cap1 : Addr) (R : Value → TW → Prop) (w : TW) : Prop :=
ldc (.int .i64) w cap fun (v : Int) =>
bnd (wi (4 * v)) fun n =>
bnd (wi (n + k)) fun n1 =>
ldc (.slice) w cap1 fun (v1 : Sl) =>
cond (decide ((n1 : Int) < (v1.n : Int))) (
ldc (.slice) w cap1 fun (v2 : Sl) =>
ldc (.int .i64) w cap fun (v3 : Int) =>
bnd (wi (4 * v3)) fun n2 =>
bnd (wi (n2 + k)) fun n3 =>
ixa v2 n3 1 fun a =>
ldc (.slice) w a fun (v4 : Sl) =>
cl Pg F.zigguratkeep_Cut [v4.v, .int .i64 3] w [.one .slice] fun (s : Sl) w1 =>
R (s.v) w1) (
R (.slice none 0 0) w)
theorem Ct.zigguratlaw21_matrix_1 {k : Int} {cap : Addr} {cap1 : Addr} {w : TW} {X : Nat → Prop} {K : Tel (fl [.one .slice]) (TW → Prop)} (h : Sh.zigguratlaw21_matrix_1 k cap cap1 (Rt X [.one .slice] K w) w.here) : Ct Pg F.zigguratlaw21_matrix_1 [.int .i64 k, .pointer (some cap), .pointer (some cap1)] w X [.one .slice] K :=
  cod (Sh.zigguratlaw21_matrix_1 k cap cap1) 20 [] [] [] Go.Proofs.Tryz.f120 (by kernel_rfl) (by kernel_rfl) (by kernel_rfl) (fun _ _ => by kernel_rfl) h
end Go.Proofs.YticehedkalheiaaGreatDoor.Zg
end

section
set_option maxRecDepth 100000
namespace Go.Proofs.YticehedkalheiaaGreatDoor.Zg
def Sh.zigguratref02_Same (a : Sl) (b : Sl) (R : Value → TW → Prop) (w : TW) : Prop :=
cl Pg F.zigguratref02_To [a.v] w [.one .slice] fun (s : Sl) w1 =>
cond (((s.n : Int) : Int) != (b.n : Int)) (
R (.bool false) w1) (
Jn [] (fun J0 =>
Lp [.int .i64] (fun (i : Int) w2 C0 =>
cond (decide ((i : Int) < (s.n : Int))) (
ixa s i 1 fun a1 =>
ldc (.int .u64) w2.drew a1 fun (v : Int) =>
ixa b i 1 fun a2 =>
ldc (.int .u64) w2.drew a2 fun (v1 : Int) =>
cond ((v : Int) != v1) (
R (.bool false) w2.drew) (
bnd (wi (i + 1)) fun n =>
C0 n w2.drew)) (
J0 w2)) 0 w1) fun  w3 =>
R (.bool true) w3)
theorem Ct.zigguratref02_Same {a : Sl} {b : Sl} {w : TW} {X : Nat → Prop} {K : Tel (fl [.one .bool]) (TW → Prop)} (h : Sh.zigguratref02_Same a b (Rt X [.one .bool] K w) w.here) : Ct Pg F.zigguratref02_Same [a.v, b.v] w X [.one .bool] K :=
  cod (Sh.zigguratref02_Same a b) 29 [] [] [(2, 0, []), (3, 5, [(6, .one (.int .i64))])] Go.Proofs.Tryz.f28 (by kernel_rfl) (by kernel_rfl) (by kernel_rfl) (fun _ _ => by kernel_rfl) h
def Sh.zigguratref02_Small (y : Int) (R : Value → TW → Prop) (w : TW) : Prop :=
nwb w [.int .u64 y] T.uint64 fun b w1 =>
cl Pg F.zigguratref02_From [.slice (some ⟨b, 0, none⟩) 1 1] w1 [.one .slice] fun (s : Sl) w2 =>
R (s.v) w2
theorem Ct.zigguratref02_Small {y : Int} {w : TW} {X : Nat → Prop} {K : Tel (fl [.one .slice]) (TW → Prop)} (h : Sh.zigguratref02_Small y (Rt X [.one .slice] K w) w.here) : Ct Pg F.zigguratref02_Small [.int .u64 y] w X [.one .slice] K :=
  cod (Sh.zigguratref02_Small y) 6 [] [] [] Go.Proofs.Tryz.f54 (by kernel_rfl) (by kernel_rfl) (by kernel_rfl) (fun _ _ => by kernel_rfl) h
def Sh.zigguratref02_Add (a : Sl) (b : Sl) (R : Value → TW → Prop) (w : TW) : Prop :=
bnd (if ((b.n : Int) : Int) > (a.n : Int) then (b.n : Int) else (a.n : Int)) fun n =>
bnd (wi (n + 1)) fun n1 =>
mks w 0 n1 T.uint64 8 [.int .u64 0] fun s w1 =>
Jn [.slice] (fun J0 =>
Lp [.slice, .int .u64, .int .i64] (fun (out : Sl) (c : Int) (i : Int) w2 C0 =>
Jn [.bool] (fun J1 =>
cond (decide ((i : Int) < (a.n : Int))) (
J1 true w2) (
cond (decide ((i : Int) < (b.n : Int))) (
J1 true w2) (
J1 (decide ((c : Int) > 0)) w2))) fun (x : Bool) w3 =>
cond x (
Jn [.int .u64] (fun J2 =>
cond (decide ((i : Int) < (a.n : Int))) (
ixa a i 1 fun a1 =>
ldc (.int .u64) w3 a1 fun (v : Int) =>
bnd (wu (c + v)) fun n2 =>
J2 n2 w3) (
J2 c w3)) fun (c1 : Int) w4 =>
Jn [.int .u64] (fun J3 =>
cond (decide ((i : Int) < (b.n : Int))) (
ixa b i 1 fun a2 =>
ldc (.int .u64) w4 a2 fun (v1 : Int) =>
bnd (wu (c1 + v1)) fun n3 =>
J3 n3 w4) (
J3 c1 w4)) fun (c2 : Int) w5 =>
remK c2 4294967296 fun n4 =>
nwb w5 [.int .u64 n4] T.uint64 fun b1 w6 =>
apd w6 T.uint64 1 8 out ⟨(some ⟨b1, 0, none⟩), 1, 1⟩ fun s1 w7 =>
divK .u64 c2 4294967296 fun n5 =>
bnd (wi (i + 1)) fun n6 =>
C0 s1 n5 n6 w7) (
J0 out w3)) s 0 0 w1) fun (out1 : Sl) w8 =>
cl Pg F.zigguratref02_norm [out1.v] w8 [.one .slice] fun (s2 : Sl) w9 =>
R (s2.v) w9
theorem Ct.zigguratref02_Add {a : Sl} {b : Sl} {w : TW} {X : Nat → Prop} {K : Tel (fl [.one .slice]) (TW → Prop)} (h : Sh.zigguratref02_Add a b (Rt X [.one .slice] K w) w.here) : Ct Pg F.zigguratref02_Add [a.v, b.v] w X [.one .slice] K :=
  cod (Sh.zigguratref02_Add a b) 60 [] [] [(2, 0, [(5, .one .slice)]), (3, 4, [(5, .one .slice), (6, .one (.int .u64)), (7, .one (.int .i64))]), (0, 4, [(28, .one .bool)]), (1, 7, [(6, .one (.int .u64))]), (1, 9, [(6, .one (.int .u64))])] Go.Proofs.Tryz.f55 (by kernel_rfl) (by kernel_rfl) (by kernel_rfl) (fun _ _ => by kernel_rfl) h
def Sh.zigguratref02_To (a : Sl) (R : Value → TW → Prop) (w : TW) : Prop :=
Jn [.slice] (fun J0 =>
Lp [.slice, .int .i64] (fun (out : Sl) (i : Int) w1 C0 =>
cond (decide ((i : Int) < (a.n : Int))) (
ixa a i 1 fun a1 =>
ldc (.int .u64) w1 a1 fun (v : Int) =>
bnd (wi (i + 1)) fun n =>
Jn [.int .u64] (fun J1 =>
cond (decide ((n : Int) < (a.n : Int))) (
bnd (wi (i + 1)) fun n1 =>
ixa a n1 1 fun a2 =>
ldc (.int .u64) w1 a2 fun (v1 : Int) =>
bnd (wu (v1 * 4294967296)) fun n2 =>
bnd (wu (v + n2)) fun n3 =>
J1 n3 w1) (
J1 v w1)) fun (y : Int) w2 =>
nwb w2 [.int .u64 y] T.uint64 fun b w3 =>
apd w3 T.uint64 1 8 out ⟨(some ⟨b, 0, none⟩), 1, 1⟩ fun s w4 =>
bnd (wi (i + 2)) fun n4 =>
C0 s n4 w4) (
J0 out w1)) Sl.nil 0 w) fun (out1 : Sl) w5 =>
Jn [.slice] (fun J2 =>
Lp [.slice] (fun (out2 : Sl) w6 C1 =>
Jn [.bool] (fun J3 =>
cond (decide (((out2.n : Int) : Int) > 0)) (
bnd (wi ((out2.n : Int) - 1)) fun n5 =>
ixa out2 n5 1 fun a3 =>
ldc (.int .u64) w6 a3 fun (v2 : Int) =>
J3 ((v2 : Int) == 0) w6) (
J3 false w6)) fun (x : Bool) w7 =>
cond x (
bnd (wi ((out2.n : Int) - 1)) fun n6 =>
slc out2 0 n6 1 fun s1 =>
C1 s1 w7) (
J2 out2 w7)) out1 w5) fun (out3 : Sl) w8 =>
R (out3.v) w8
theorem Ct.zigguratref02_To {a : Sl} {w : TW} {X : Nat → Prop} {K : Tel (fl [.one .slice]) (TW → Prop)} (h : Sh.zigguratref02_To a (Rt X [.one .slice] K w) w.here) : Ct Pg F.zigguratref02_To [a.v] w X [.one .slice] K :=
  cod (Sh.zigguratref02_To a) 51 [] [] [(2, 0, [(3, .one .slice)]), (3, 3, [(3, .one .slice), (4, .one (.int .i64))]), (1, 7, [(5, .one (.int .u64))]), (2, 2, [(3, .one .slice)]), (3, 9, [(3, .one .slice)]), (0, 9, [(44, .one .bool)])] Go.Proofs.Tryz.f56 (by kernel_rfl) (by kernel_rfl) (by kernel_rfl) (fun _ _ => by kernel_rfl) h
def Sh.zigguratref02_Mul (a : Sl) (b : Sl) (R : Value → TW → Prop) (w : TW) : Prop :=
bnd (wi ((a.n : Int) + (b.n : Int))) fun n =>
mks w n n T.uint64 8 [.int .u64 0] fun s w1 =>
Jn [] (fun J0 =>
Lp [.int .i64] (fun (i : Int) w2 C0 =>
cond (decide ((i : Int) < (a.n : Int))) (
Jn [.int .u64] (fun J1 =>
Lp [.int .u64, .int .i64] (fun (c : Int) (j : Int) w3 C1 =>
cond (decide ((j : Int) < (b.n : Int))) (
bnd (wi (i + j)) fun n1 =>
ixa s n1 1 fun a1 =>
ldc (.int .u64) w3.drew a1 fun (v : Int) =>
ixa a i 1 fun a2 =>
ldc (.int .u64) w3.drew a2 fun (v1 : Int) =>
ixa b j 1 fun a3 =>
ldc (.int .u64) w3.drew a3 fun (v2 : Int) =>
bnd (wu (v1 * v2)) fun n2 =>
bnd (wu (v + n2)) fun n3 =>
bnd (wu (n3 + c)) fun n4 =>
bnd (wi (i + j)) fun n5 =>
remK n4 4294967296 fun n6 =>
ixa s n5 1 fun a4 =>
stc w3.drew a4 (.int .u64 n6) fun w4 =>
divK .u64 n4 4294967296 fun n7 =>
bnd (wi (j + 1)) fun n8 =>
C1 n7 n8 w4) (
J1 c w3)) 0 0 w2) fun (c1 : Int) w5 =>
bnd (wi (i + (b.n : Int))) fun n9 =>
ixa s n9 1 fun a5 =>
stc w5 a5 (.int .u64 c1) fun w6 =>
bnd (wi (i + 1)) fun n10 =>
C0 n10 w6) (
J0 w2)) 0 w1) fun  w7 =>
cl Pg F.zigguratref02_norm [s.v] w7 [.one .slice] fun (s1 : Sl) w8 =>
R (s1.v) w8
theorem Ct.zigguratref02_Mul {a : Sl} {b : Sl} {w : TW} {X : Nat → Prop} {K : Tel (fl [.one .slice]) (TW → Prop)} (h : Sh.zigguratref02_Mul a b (Rt X [.one .slice] K w) w.here) : Ct Pg F.zigguratref02_Mul [a.v, b.v] w X [.one .slice] K :=
  cod (Sh.zigguratref02_Mul a b) 64 [] [] [(2, 0, []), (3, 3, [(6, .one (.int .i64))]), (2, 2, [(7, .one (.int .u64))]), (3, 7, [(7, .one (.int .u64)), (8, .one (.int .i64))])] Go.Proofs.Tryz.f57 (by kernel_rfl) (by kernel_rfl) (by kernel_rfl) (fun _ _ => by kernel_rfl) h
def Sh.zigguratref02_Cmp (a : Sl) (b : Sl) (R : Value → TW → Prop) (w : TW) : Prop :=
cond (((a.n : Int) : Int) != (b.n : Int)) (
cond (decide (((a.n : Int) : Int) < (b.n : Int))) (
R (.int .i64 (-1)) w) (
R (.int .i64 1) w)) (
bnd (wi ((a.n : Int) - 1)) fun n =>
Jn [] (fun J0 =>
Lp [.int .i64] (fun (i : Int) w1 C0 =>
cond (decide ((i : Int) ≥ 0)) (
ixa a i 1 fun a1 =>
ldc (.int .u64) w1.drew a1 fun (v : Int) =>
ixa b i 1 fun a2 =>
ldc (.int .u64) w1.drew a2 fun (v1 : Int) =>
cond (decide ((v : Int) < v1)) (
R (.int .i64 (-1)) w1.drew) (
ixa a i 1 fun a3 =>
ldc (.int .u64) w1.drew.drew a3 fun (v2 : Int) =>
ixa b i 1 fun a4 =>
ldc (.int .u64) w1.drew.drew a4 fun (v3 : Int) =>
cond (decide ((v2 : Int) > v3)) (
R (.int .i64 1) w1.drew.drew) (
bnd (wi (i - 1)) fun n1 =>
C0 n1 w1.drew.drew))) (
J0 w1)) n w) fun  w2 =>
R (.int .i64 0) w2)
theorem Ct.zigguratref02_Cmp {a : Sl} {b : Sl} {w : TW} {X : Nat → Prop} {K : Tel (fl [.one (.int .i64)]) (TW → Prop)} (h : Sh.zigguratref02_Cmp a b (Rt X [.one (.int .i64)] K w) w.here) : Ct Pg F.zigguratref02_Cmp [a.v, b.v] w X [.one (.int .i64)] K :=
  cod (Sh.zigguratref02_Cmp a b) 41 [] [] [(2, 0, []), (3, 6, [(5, .one (.int .i64))])] Go.Proofs.Tryz.f84 (by kernel_rfl) (by kernel_rfl) (by kernel_rfl) (fun _ _ => by kernel_rfl) h
def Sh.zigguratref02_From (a : Sl) (R : Value → TW → Prop) (w : TW) : Prop :=
bnd (wi (2 * (a.n : Int))) fun n =>
mks w 0 n T.uint64 8 [.int .u64 0] fun s w1 =>
Jn [.slice] (fun J0 =>
Lp [.slice, .int .i64] (fun (out : Sl) (i : Int) w2 C0 =>
cond (decide ((i : Int) < (a.n : Int))) (
ixa a i 1 fun a1 =>
ldc (.int .u64) w2.drew a1 fun (v : Int) =>
remK v 4294967296 fun n1 =>
ixa a i 1 fun a2 =>
ldc (.int .u64) w2.drew a2 fun (v1 : Int) =>
divK .u64 v1 4294967296 fun n2 =>
nwb w2.drew [.int .u64 n1, .int .u64 n2] T.uint64 fun b w3 =>
hld w3 [(a2, .int .u64 v1), (a1, .int .u64 v)] <|
apd w3 T.uint64 1 8 out ⟨(some ⟨b, 0, none⟩), 2, 2⟩ fun s1 w4 =>
hld w4 [(a2, .int .u64 v1), (a1, .int .u64 v)] <|
bnd (wi (i + 1)) fun n3 =>
C0 s1 n3 w4) (
J0 out w2)) s 0 w1) fun (out1 : Sl) w5 =>
cl Pg F.zigguratref02_norm [out1.v] w5 [.one .slice] fun (s2 : Sl) w6 =>
R (s2.v) w6
theorem Ct.zigguratref02_From {a : Sl} {w : TW} {X : Nat → Prop} {K : Tel (fl [.one .slice]) (TW → Prop)} (h : Sh.zigguratref02_From a (Rt X [.one .slice] K w) w.here) : Ct Pg F.zigguratref02_From [a.v] w X [.one .slice] K :=
  cod (Sh.zigguratref02_From a) 30 [] [] [(2, 0, [(3, .one .slice)]), (3, 3, [(3, .one .slice), (4, .one (.int .i64))])] Go.Proofs.Tryz.f99 (by kernel_rfl) (by kernel_rfl) (by kernel_rfl) (fun _ _ => by kernel_rfl) h
def Sh.zigguratref02_Zero (a : Sl) (R : Value → TW → Prop) (w : TW) : Prop :=
R (.bool (((a.n : Int) : Int) == 0)) w
theorem Ct.zigguratref02_Zero {a : Sl} {w : TW} {X : Nat → Prop} {K : Tel (fl [.one .bool]) (TW → Prop)} (h : Sh.zigguratref02_Zero a (Rt X [.one .bool] K w) w.here) : Ct Pg F.zigguratref02_Zero [a.v] w X [.one .bool] K :=
  cod (Sh.zigguratref02_Zero a) 6 [] [] [] Go.Proofs.Tryz.f102 (by kernel_rfl) (by kernel_rfl) (by kernel_rfl) (fun _ _ => by kernel_rfl) h
def Sh.zigguratref02_Sub (a : Sl) (b : Sl) (R : Value → TW → Prop) (w : TW) : Prop :=
mks w 0 (a.n : Int) T.uint64 8 [.int .u64 0] fun s w1 =>
Jn [.slice] (fun J0 =>
Lp [.slice, .int .u64, .int .i64] (fun (out : Sl) (c : Int) (i : Int) w2 C0 =>
cond (decide ((i : Int) < (a.n : Int))) (
Jn [.int .u64] (fun J1 =>
cond (decide ((i : Int) < (b.n : Int))) (
ixa b i 1 fun a1 =>
ldc (.int .u64) w2 a1 fun (v : Int) =>
bnd (wu (c + v)) fun n =>
J1 n w2) (
J1 c w2)) fun (s1 : Int) w3 =>
ixa a i 1 fun a2 =>
ldc (.int .u64) w3 a2 fun (v1 : Int) =>
Jn [.slice, .int .u64] (fun J2 =>
cond (decide ((v1 : Int) ≥ s1)) (
ixa a i 1 fun a3 =>
ldc (.int .u64) w3 a3 fun (v2 : Int) =>
bnd (wu (v2 - s1)) fun n1 =>
nwb w3 [.int .u64 n1] T.uint64 fun b1 w4 =>
apd w4 T.uint64 1 8 out ⟨(some ⟨b1, 0, none⟩), 1, 1⟩ fun s2 w5 =>
J2 s2 0 w5) (
ixa a i 1 fun a4 =>
ldc (.int .u64) w3 a4 fun (v3 : Int) =>
bnd (wu (v3 + 4294967296)) fun n2 =>
bnd (wu (n2 - s1)) fun n3 =>
nwb w3 [.int .u64 n3] T.uint64 fun b2 w6 =>
apd w6 T.uint64 1 8 out ⟨(some ⟨b2, 0, none⟩), 1, 1⟩ fun s3 w7 =>
J2 s3 1 w7)) fun (out1 : Sl) (c1 : Int) w8 =>
bnd (wi (i + 1)) fun n4 =>
C0 out1 c1 n4 w8) (
J0 out w2)) s 0 0 w1) fun (out2 : Sl) w9 =>
cl Pg F.zigguratref02_norm [out2.v] w9 [.one .slice] fun (s4 : Sl) w10 =>
R (s4.v) w10
theorem Ct.zigguratref02_Sub {a : Sl} {b : Sl} {w : TW} {X : Nat → Prop} {K : Tel (fl [.one .slice]) (TW → Prop)} (h : Sh.zigguratref02_Sub a b (Rt X [.one .slice] K w) w.here) : Ct Pg F.zigguratref02_Sub [a.v, b.v] w X [.one .slice] K :=
  cod (Sh.zigguratref02_Sub a b) 56 [] [] [(2, 0, [(5, .one .slice)]), (3, 4, [(5, .one .slice), (6, .one (.int .u64)), (7, .one (.int .i64))]), (1, 8, [(8, .one (.int .u64))]), (1, 10, [(5, .one .slice), (6, .one (.int .u64))])] Go.Proofs.Tryz.f112 (by kernel_rfl) (by kernel_rfl) (by kernel_rfl) (fun _ _ => by kernel_rfl) h
def Sh.zigguratref02_norm (a : Sl) (R : Value → TW → Prop) (w : TW) : Prop :=
Jn [.int .i64] (fun J0 =>
Lp [.int .i64] (fun (k : Int) w1 C0 =>
Jn [.bool] (fun J1 =>
cond (decide ((k : Int) > 0)) (
bnd (wi (k - 1)) fun n =>
ixa a n 1 fun a1 =>
ldc (.int .u64) w1 a1 fun (v : Int) =>
J1 ((v : Int) == 0) w1) (
J1 false w1)) fun (x : Bool) w2 =>
cond x (
bnd (wi (k - 1)) fun n1 =>
C0 n1 w2) (
J0 k w2)) (a.n : Int) w) fun (k1 : Int) w3 =>
slc a 0 k1 1 fun s =>
R (s.v) w3
theorem Ct.zigguratref02_norm {a : Sl} {w : TW} {X : Nat → Prop} {K : Tel (fl [.one .slice]) (TW → Prop)} (h : Sh.zigguratref02_norm a (Rt X [.one .slice] K w) w.here) : Ct Pg F.zigguratref02_norm [a.v] w X [.one .slice] K :=
  cod (Sh.zigguratref02_norm a) 21 [] [] [(2, 0, [(3, .one (.int .i64))]), (3, 2, [(3, .one (.int .i64))]), (0, 2, [(15, .one .bool)])] Go.Proofs.Tryz.f119 (by kernel_rfl) (by kernel_rfl) (by kernel_rfl) (fun _ _ => by kernel_rfl) h
end Go.Proofs.YticehedkalheiaaGreatDoor.Zg
end
