/- What each function of Go's package 'zigguratlaw02' does, step by step (its reading), and that its contract follows from that. Written by genseat.py. -/
import Derived.Test.YthhohfgpaihngaaZgX
set_option linter.unusedVariables false
set_option linter.unusedSimpArgs false
set_option linter.unnecessarySimpa false
set_option maxRecDepth 100000
namespace Go.Proofs.Ythhohfgpaihngaa.Zg
def Sh.zigguratlaw02_LimbJoins (k : Int) (l : Sl) (R : Value → TW → Prop) (w : TW) : Prop :=
cl Pg F.zigguratkeep_Cuts [l.v, .int .i64 8, .int .i64 12] w [.one .slice] fun (s : Sl) w1 =>
Jn [.int .i64] (fun J0 =>
cond (decide ((k : Int) > 40)) (
cl Pg F.zigguratkeep_Within [.int .i64 k, .int .i64 40] w1 [.one (.int .i64)] fun (r : Int) w2 =>
J0 r w2) (
J0 k w1)) fun (k1 : Int) w3 =>
bnd (wi ((s.n : Int) - 1)) fun n =>
Jn [.slice] (fun J1 =>
Lp [.slice, .int .i64] (fun (sum : Sl) (i : Int) w4 C0 =>
cond (decide ((i : Int) ≥ 0)) (
ixa s i 1 fun a =>
ldc (.slice) w4.drew a fun (v : Sl) =>
cl Pg F.zigguratlaw02_count [.int .i64 k1, .int .i64 40] w4.drew [.one (.int .i64)] fun (r1 : Int) w5 =>
hld w5 [(a, v.v)] <|
bnd (wi (64 * r1)) fun n1 =>
cl Pg F.zigguratref02_Shl [sum.v, .int .i64 n1] w5 [.one .slice] fun (s1 : Sl) w6 =>
hld w6 [(a, v.v)] <|
cl Pg F.zigguratlaw02_from [v.v] w6 [.one .slice] fun (s2 : Sl) w7 =>
cl Pg F.zigguratref02_Add [s1.v, s2.v] w7 [.one .slice] fun (s3 : Sl) w8 =>
bnd (wi (i - 1)) fun n2 =>
C0 s3 n2 w8) (
J1 sum w4)) Sl.nil n w3) fun (sum1 : Sl) w9 =>
Jn [.bool] (fun J2 =>
cl Pg F.zigguratkeep_Nats [s.v] w9 [.one .slice] fun (s4 : Sl) w10 =>
cl Pg F.limb_Join [.int .i64 k1, s4.v] w10 [.one .slice] fun (s5 : Sl) w11 =>
cl Pg F.zigguratref02_Same [sum1.v, s5.v] w11 [.one .bool] fun (ok : Bool) w12 =>
cond ok (
cl Pg F.zigguratlaw02_wakes [] w12 [.one .bool] fun (ok1 : Bool) w13 =>
J2 ok1 w13) (
J2 false w12)) fun (x : Bool) w14 =>
R (.bool x) w14
def Dc.zigguratlaw02_LimbJoins : Dc := { N := 40, va := [], vb := [], ann := [(1, 3, [(0, .one (.int .i64))]), (2, 0, [(5, .one .slice)]), (3, 6, [(5, .one .slice), (6, .one (.int .i64))]), (0, 9, [(4, .one .bool)])], ext := Xt }
theorem Eq.zigguratlaw02_LimbJoins (k : Int) (l : Sl) (R : Value → TW → Prop) (w : TW) : denF Pg Dc.zigguratlaw02_LimbJoins Go.Proofs.Try.f4 (Go.Proofs.Try.f4.body.getD .skip) [.int .i64 k, l.v] w R = Sh.zigguratlaw02_LimbJoins k l R w := by kernel_rfl
theorem Ct.zigguratlaw02_LimbJoins {k : Int} {l : Sl} {w : TW} {X : Nat → Prop} {K : Tel (fl [.one .bool]) (TW → Prop)} (h : Sh.zigguratlaw02_LimbJoins k l (Rt X [.one .bool] K w) w.here) : Ct Pg F.zigguratlaw02_LimbJoins [.int .i64 k, l.v] w X [.one .bool] K :=
  ct_of_den (D := Dc.zigguratlaw02_LimbJoins) (fn := Go.Proofs.Try.f4) Xt_ok follows_ok (by kernel_rfl) (by kernel_rfl) (by kernel_rfl) (Eq.mpr (Eq.zigguratlaw02_LimbJoins k l _ _) h)

def Sh.zigguratlaw02_LimbSums (l : Sl) (y : Int) (R : Value → TW → Prop) (w : TW) : Prop :=
cl Pg F.zigguratkeep_Cuts [l.v, .int .i64 12, .int .i64 20] w [.one .slice] fun (s : Sl) w1 =>
Jn [.bool] (fun J0 =>
cl Pg F.zigguratkeep_Nats [s.v] w1 [.one .slice] fun (s1 : Sl) w2 =>
cl Pg F.zigguratref02_Sum [s1.v] w2 [.one .slice] fun (s2 : Sl) w3 =>
cl Pg F.zigguratkeep_Nats [s.v] w3 [.one .slice] fun (s3 : Sl) w4 =>
cl Pg F.limb_Sum [s3.v] w4 [.one .slice] fun (s4 : Sl) w5 =>
cl Pg F.zigguratref02_Same [s2.v, s4.v] w5 [.one .bool] fun (ok : Bool) w6 =>
cond ok (
cl Pg F.zigguratref02_Small [.int .u64 y] w6 [.one .slice] fun (s5 : Sl) w7 =>
cl Pg F.limb_One [.int .u64 y] w7 [.one .slice] fun (s6 : Sl) w8 =>
cl Pg F.zigguratref02_Same [s5.v, s6.v] w8 [.one .bool] fun (ok1 : Bool) w9 =>
cond ok1 (
cl Pg F.zigguratlaw02_wakes [] w9 [.one .bool] fun (ok2 : Bool) w10 =>
J0 ok2 w10) (
J0 false w9)) (
J0 false w6)) fun (x : Bool) w11 =>
R (.bool x) w11
def Dc.zigguratlaw02_LimbSums : Dc := { N := 24, va := [], vb := [], ann := [(0, 2, [(4, .one .bool)])], ext := Xt }
theorem Eq.zigguratlaw02_LimbSums (l : Sl) (y : Int) (R : Value → TW → Prop) (w : TW) : denF Pg Dc.zigguratlaw02_LimbSums Go.Proofs.Try.f6 (Go.Proofs.Try.f6.body.getD .skip) [l.v, .int .u64 y] w R = Sh.zigguratlaw02_LimbSums l y R w := by kernel_rfl
theorem Ct.zigguratlaw02_LimbSums {l : Sl} {y : Int} {w : TW} {X : Nat → Prop} {K : Tel (fl [.one .bool]) (TW → Prop)} (h : Sh.zigguratlaw02_LimbSums l y (Rt X [.one .bool] K w) w.here) : Ct Pg F.zigguratlaw02_LimbSums [l.v, .int .u64 y] w X [.one .bool] K :=
  ct_of_den (D := Dc.zigguratlaw02_LimbSums) (fn := Go.Proofs.Try.f6) Xt_ok follows_ok (by kernel_rfl) (by kernel_rfl) (by kernel_rfl) (Eq.mpr (Eq.zigguratlaw02_LimbSums l y _ _) h)

def Sh.zigguratlaw02_LimbSplits (a : Sl) (k : Int) (R : Value → TW → Prop) (w : TW) : Prop :=
cl Pg F.zigguratkeep_Cut [a.v, .int .i64 50] w [.one .slice] fun (s : Sl) w1 =>
cl Pg F.zigguratkeep_Lend [s.v] w1 [.one .slice] fun (s1 : Sl) w2 =>
cl Pg F.limb_Split [s1.v, .int .i64 k] w2 [.one .slice, .one .slice] fun (s2 : Sl) (s3 : Sl) w3 =>
cl Pg F.zigguratlaw02_count [.int .i64 k, .int .i64 16384] w3 [.one (.int .i64)] fun (r : Int) w4 =>
Jn [.bool] (fun J0 =>
cl Pg F.zigguratlaw02_from [s.v] w4 [.one .slice] fun (s4 : Sl) w5 =>
bnd (wi (64 * r)) fun n =>
cl Pg F.zigguratref02_Low [s4.v, .int .i64 n] w5 [.one .slice] fun (s5 : Sl) w6 =>
cl Pg F.zigguratref02_Same [s5.v, s2.v] w6 [.one .bool] fun (ok : Bool) w7 =>
cond (!ok) (
J0 true w7) (
cl Pg F.zigguratlaw02_from [s.v] w7 [.one .slice] fun (s6 : Sl) w8 =>
bnd (wi (64 * r)) fun n1 =>
cl Pg F.zigguratref02_Shr [s6.v, .int .i64 n1] w8 [.one .slice] fun (s7 : Sl) w9 =>
cl Pg F.zigguratref02_Same [s7.v, s3.v] w9 [.one .bool] fun (ok1 : Bool) w10 =>
J0 (!ok1) w10)) fun (x : Bool) w11 =>
cond x (
R (.bool false) w11) (
nwb w11 [s2.v, s3.v] T.api_Nat fun b w12 =>
cl Pg F.limb_Join [.int .i64 k, .slice (some ⟨b, 0, none⟩) 2 2] w12 [.one .slice] fun (s8 : Sl) w13 =>
Jn [.bool] (fun J1 =>
cond (decide ((r : Int) > 0)) (
cl Pg F.limb_Cmp [s8.v, s1.v] w13 [.one (.int .i64)] fun (r1 : Int) w14 =>
J1 ((r1 : Int) != 0) w14) (
J1 false w13)) fun (x1 : Bool) w15 =>
cond x1 (
R (.bool false) w15) (
cl Pg F.zigguratkeep_Spoil [s2.v] w15 [] fun w16 =>
cl Pg F.zigguratkeep_Spoil [s3.v] w16 [] fun w17 =>
Jn [.bool] (fun J2 =>
cl Pg F.zigguratkeep_Intact [s1.v, s.v] w17 [.one .bool] fun (ok2 : Bool) w18 =>
cond ok2 (
cl Pg F.zigguratlaw02_wakes [] w18 [.one .bool] fun (ok3 : Bool) w19 =>
J2 ok3 w19) (
J2 false w18)) fun (x2 : Bool) w20 =>
R (.bool x2) w20))
def Dc.zigguratlaw02_LimbSplits : Dc := { N := 63, va := [], vb := [], ann := [(0, 5, [(39, .one .bool)]), (0, 8, [(52, .one .bool)]), (0, 12, [(4, .one .bool)])], ext := Xt }
theorem Eq.zigguratlaw02_LimbSplits (a : Sl) (k : Int) (R : Value → TW → Prop) (w : TW) : denF Pg Dc.zigguratlaw02_LimbSplits Go.Proofs.Try.f7 (Go.Proofs.Try.f7.body.getD .skip) [a.v, .int .i64 k] w R = Sh.zigguratlaw02_LimbSplits a k R w := by kernel_rfl
theorem Ct.zigguratlaw02_LimbSplits {a : Sl} {k : Int} {w : TW} {X : Nat → Prop} {K : Tel (fl [.one .bool]) (TW → Prop)} (h : Sh.zigguratlaw02_LimbSplits a k (Rt X [.one .bool] K w) w.here) : Ct Pg F.zigguratlaw02_LimbSplits [a.v, .int .i64 k] w X [.one .bool] K :=
  ct_of_den (D := Dc.zigguratlaw02_LimbSplits) (fn := Go.Proofs.Try.f7) Xt_ok follows_ok (by kernel_rfl) (by kernel_rfl) (by kernel_rfl) (Eq.mpr (Eq.zigguratlaw02_LimbSplits a k _ _) h)

def Sh.zigguratlaw02_LimbAdds (a : Sl) (b : Sl) (R : Value → TW → Prop) (w : TW) : Prop :=
cl Pg F.zigguratkeep_Cut [a.v, .int .i64 60] w [.one .slice] fun (s : Sl) w1 =>
cl Pg F.zigguratkeep_Cut [b.v, .int .i64 60] w1 [.one .slice] fun (s1 : Sl) w2 =>
cl Pg F.zigguratkeep_Lend [s.v] w2 [.one .slice] fun (s2 : Sl) w3 =>
cl Pg F.zigguratkeep_Lend [s1.v] w3 [.one .slice] fun (s3 : Sl) w4 =>
cl Pg F.limb_Add [s2.v, s3.v] w4 [.one .slice] fun (s4 : Sl) w5 =>
cl Pg F.limb_Sub [s2.v, s3.v] w5 [.one .slice, .one .bool] fun (s5 : Sl) (ok : Bool) w6 =>
cl Pg F.zigguratlaw02_from [s.v] w6 [.one .slice] fun (s6 : Sl) w7 =>
cl Pg F.zigguratlaw02_from [s1.v] w7 [.one .slice] fun (s7 : Sl) w8 =>
cl Pg F.zigguratref02_Cmp [s6.v, s7.v] w8 [.one (.int .i64)] fun (r : Int) w9 =>
Jn [.bool] (fun J0 =>
cl Pg F.zigguratlaw02_from [s.v] w9 [.one .slice] fun (s8 : Sl) w10 =>
cl Pg F.zigguratlaw02_from [s1.v] w10 [.one .slice] fun (s9 : Sl) w11 =>
cl Pg F.zigguratref02_Add [s8.v, s9.v] w11 [.one .slice] fun (s10 : Sl) w12 =>
cl Pg F.zigguratref02_Same [s10.v, s4.v] w12 [.one .bool] fun (ok1 : Bool) w13 =>
cond (!ok1) (
J0 true w13) (
cl Pg F.limb_Cmp [s2.v, s3.v] w13 [.one (.int .i64)] fun (r1 : Int) w14 =>
cond ((r1 : Int) != r) (
J0 true w14) (
J0 (!(ok == (decide ((r : Int) ≥ 0)))) w14))) fun (x : Bool) w15 =>
cond x (
R (.bool false) w15) (
Jn [.bool] (fun J1 =>
cond ok (
cl Pg F.zigguratlaw02_from [s.v] w15 [.one .slice] fun (s11 : Sl) w16 =>
cl Pg F.zigguratlaw02_from [s1.v] w16 [.one .slice] fun (s12 : Sl) w17 =>
cl Pg F.zigguratref02_Sub [s11.v, s12.v] w17 [.one .slice] fun (s13 : Sl) w18 =>
cl Pg F.zigguratref02_Same [s13.v, s5.v] w18 [.one .bool] fun (ok2 : Bool) w19 =>
cond (!ok2) (
J1 true w19) (
cond (!ok) (
J1 (decide (((s5.n : Int) : Int) > 0)) w19) (
J1 false w19))) (
cond (!ok) (
J1 (decide (((s5.n : Int) : Int) > 0)) w15) (
J1 false w15))) fun (x1 : Bool) w20 =>
cond x1 (
R (.bool false) w20) (
cl Pg F.limb_Norm [s2.v] w20 [.one .slice] fun (s14 : Sl) w21 =>
cl Pg F.zigguratkeep_Spoil [s4.v] w21 [] fun w22 =>
cl Pg F.zigguratkeep_Spoil [s5.v] w22 [] fun w23 =>
cl Pg F.zigguratlaw02_from [s.v] w23 [.one .slice] fun (s15 : Sl) w24 =>
cl Pg F.zigguratref02_Same [s15.v, s14.v] w24 [.one .bool] fun (ok3 : Bool) w25 =>
cond (!ok3) (
R (.bool false) w25) (
cl Pg F.zigguratkeep_Spoil [s14.v] w25 [] fun w26 =>
Jn [.bool] (fun J2 =>
cl Pg F.zigguratkeep_Intact [s2.v, s.v] w26 [.one .bool] fun (ok4 : Bool) w27 =>
cond ok4 (
cl Pg F.zigguratkeep_Intact [s3.v, s1.v] w27 [.one .bool] fun (ok5 : Bool) w28 =>
cond ok5 (
cl Pg F.zigguratlaw02_wakes [] w28 [.one .bool] fun (ok6 : Bool) w29 =>
J2 ok6 w29) (
J2 false w28)) (
J2 false w27)) fun (x2 : Bool) w30 =>
R (.bool x2) w30)))
def Dc.zigguratlaw02_LimbAdds : Dc := { N := 99, va := [], vb := [], ann := [(0, 6, [(54, .one .bool)]), (0, 8, [(74, .one .bool)]), (0, 16, [(4, .one .bool)])], ext := Xt }
theorem Eq.zigguratlaw02_LimbAdds (a : Sl) (b : Sl) (R : Value → TW → Prop) (w : TW) : denF Pg Dc.zigguratlaw02_LimbAdds Go.Proofs.Try.f10 (Go.Proofs.Try.f10.body.getD .skip) [a.v, b.v] w R = Sh.zigguratlaw02_LimbAdds a b R w := by kernel_rfl
theorem Ct.zigguratlaw02_LimbAdds {a : Sl} {b : Sl} {w : TW} {X : Nat → Prop} {K : Tel (fl [.one .bool]) (TW → Prop)} (h : Sh.zigguratlaw02_LimbAdds a b (Rt X [.one .bool] K w) w.here) : Ct Pg F.zigguratlaw02_LimbAdds [a.v, b.v] w X [.one .bool] K :=
  ct_of_den (D := Dc.zigguratlaw02_LimbAdds) (fn := Go.Proofs.Try.f10) Xt_ok follows_ok (by kernel_rfl) (by kernel_rfl) (by kernel_rfl) (Eq.mpr (Eq.zigguratlaw02_LimbAdds a b _ _) h)

def Sh.zigguratlaw02_LimbWords (a : Sl) (b : Sl) (y : Int) (R : Value → TW → Prop) (w : TW) : Prop :=
cl Pg F.zigguratkeep_Cut [a.v, .int .i64 50] w [.one .slice] fun (s : Sl) w1 =>
cl Pg F.zigguratkeep_Cut [b.v, .int .i64 50] w1 [.one .slice] fun (s1 : Sl) w2 =>
cl Pg F.zigguratkeep_Lend [s.v] w2 [.one .slice] fun (s2 : Sl) w3 =>
cl Pg F.zigguratkeep_Lend [s1.v] w3 [.one .slice] fun (s3 : Sl) w4 =>
cl Pg F.zigguratlaw02_from [s1.v] w4 [.one .slice] fun (s4 : Sl) w5 =>
cl Pg F.zigguratref02_Small [.int .u64 y] w5 [.one .slice] fun (s5 : Sl) w6 =>
cl Pg F.zigguratref02_Mul [s4.v, s5.v] w6 [.one .slice] fun (s6 : Sl) w7 =>
Jn [.bool] (fun J0 =>
cl Pg F.limb_MulWord [s3.v, .int .u64 y] w7 [.one .slice] fun (s7 : Sl) w8 =>
cl Pg F.zigguratref02_Same [s6.v, s7.v] w8 [.one .bool] fun (ok : Bool) w9 =>
cond (!ok) (
J0 true w9) (
cl Pg F.zigguratlaw02_from [s.v] w9 [.one .slice] fun (s8 : Sl) w10 =>
cl Pg F.zigguratref02_Add [s8.v, s6.v] w10 [.one .slice] fun (s9 : Sl) w11 =>
cl Pg F.limb_AddMul [s2.v, s3.v, .int .u64 y] w11 [.one .slice] fun (s10 : Sl) w12 =>
cl Pg F.zigguratref02_Same [s9.v, s10.v] w12 [.one .bool] fun (ok1 : Bool) w13 =>
J0 (!ok1) w13)) fun (x : Bool) w14 =>
cond x (
R (.bool false) w14) (
cl Pg F.limb_SubMul [s2.v, s3.v, .int .u64 y] w14 [.one .slice, .one .bool] fun (s11 : Sl) (ok2 : Bool) w15 =>
cl Pg F.zigguratlaw02_from [s.v] w15 [.one .slice] fun (s12 : Sl) w16 =>
cl Pg F.zigguratref02_Cmp [s12.v, s6.v] w16 [.one (.int .i64)] fun (r : Int) w17 =>
cond (!(ok2 == (decide ((r : Int) ≥ 0)))) (
R (.bool false) w17) (
Jn [.bool] (fun J1 =>
cond ok2 (
cl Pg F.zigguratlaw02_from [s.v] w17 [.one .slice] fun (s13 : Sl) w18 =>
cl Pg F.zigguratref02_Sub [s13.v, s6.v] w18 [.one .slice] fun (s14 : Sl) w19 =>
cl Pg F.zigguratref02_Same [s14.v, s11.v] w19 [.one .bool] fun (ok3 : Bool) w20 =>
cond (!ok3) (
J1 true w20) (
cond (!ok2) (
J1 (decide (((s11.n : Int) : Int) > 0)) w20) (
J1 false w20))) (
cond (!ok2) (
J1 (decide (((s11.n : Int) : Int) > 0)) w17) (
J1 false w17))) fun (x1 : Bool) w21 =>
cond x1 (
R (.bool false) w21) (
Jn [.bool] (fun J2 =>
cl Pg F.zigguratkeep_Intact [s2.v, s.v] w21 [.one .bool] fun (ok4 : Bool) w22 =>
cond ok4 (
cl Pg F.zigguratkeep_Intact [s3.v, s1.v] w22 [.one .bool] fun (ok5 : Bool) w23 =>
cond ok5 (
cl Pg F.zigguratlaw02_wakes [] w23 [.one .bool] fun (ok6 : Bool) w24 =>
J2 ok6 w24) (
J2 false w23)) (
J2 false w22)) fun (x2 : Bool) w25 =>
R (.bool x2) w25)))
def Dc.zigguratlaw02_LimbWords : Dc := { N := 87, va := [], vb := [], ann := [(0, 4, [(42, .one .bool)]), (0, 9, [(75, .one .bool)]), (0, 11, [(6, .one .bool)])], ext := Xt }
theorem Eq.zigguratlaw02_LimbWords (a : Sl) (b : Sl) (y : Int) (R : Value → TW → Prop) (w : TW) : denF Pg Dc.zigguratlaw02_LimbWords Go.Proofs.Try.f11 (Go.Proofs.Try.f11.body.getD .skip) [a.v, b.v, .int .u64 y] w R = Sh.zigguratlaw02_LimbWords a b y R w := by kernel_rfl
theorem Ct.zigguratlaw02_LimbWords {a : Sl} {b : Sl} {y : Int} {w : TW} {X : Nat → Prop} {K : Tel (fl [.one .bool]) (TW → Prop)} (h : Sh.zigguratlaw02_LimbWords a b y (Rt X [.one .bool] K w) w.here) : Ct Pg F.zigguratlaw02_LimbWords [a.v, b.v, .int .u64 y] w X [.one .bool] K :=
  ct_of_den (D := Dc.zigguratlaw02_LimbWords) (fn := Go.Proofs.Try.f11) Xt_ok follows_ok (by kernel_rfl) (by kernel_rfl) (by kernel_rfl) (Eq.mpr (Eq.zigguratlaw02_LimbWords a b y _ _) h)

def Sh.zigguratlaw02_LimbShifts (a : Sl) (n : Int) (R : Value → TW → Prop) (w : TW) : Prop :=
cl Pg F.zigguratkeep_Cut [a.v, .int .i64 40] w [.one .slice] fun (s : Sl) w1 =>
cl Pg F.zigguratkeep_Lend [s.v] w1 [.one .slice] fun (s1 : Sl) w2 =>
Jn [.int .i64] (fun J0 =>
cond (decide ((n : Int) > 6000)) (
cl Pg F.zigguratkeep_Within [.int .i64 n, .int .i64 100] w2 [.one (.int .i64)] fun (r : Int) w3 =>
bnd (wi (6000 + r)) fun n1 =>
J0 n1 w3) (
J0 n w2)) fun (n2 : Int) w4 =>
cl Pg F.zigguratlaw02_count [.int .i64 n2, .int .i64 1048576] w4 [.one (.int .i64)] fun (r1 : Int) w5 =>
cl Pg F.limb_Shl [s1.v, .int .i64 n2] w5 [.one .slice] fun (s2 : Sl) w6 =>
cl Pg F.limb_Shr [s1.v, .int .i64 n2] w6 [.one .slice] fun (s3 : Sl) w7 =>
cl Pg F.limb_Low [s1.v, .int .i64 n2] w7 [.one .slice] fun (s4 : Sl) w8 =>
Jn [.bool] (fun J1 =>
cl Pg F.zigguratlaw02_from [s.v] w8 [.one .slice] fun (s5 : Sl) w9 =>
cl Pg F.zigguratref02_Shl [s5.v, .int .i64 r1] w9 [.one .slice] fun (s6 : Sl) w10 =>
cl Pg F.zigguratref02_Same [s6.v, s2.v] w10 [.one .bool] fun (ok : Bool) w11 =>
cond (!ok) (
J1 true w11) (
cl Pg F.zigguratlaw02_from [s.v] w11 [.one .slice] fun (s7 : Sl) w12 =>
cl Pg F.zigguratref02_Shr [s7.v, .int .i64 r1] w12 [.one .slice] fun (s8 : Sl) w13 =>
cl Pg F.zigguratref02_Same [s8.v, s3.v] w13 [.one .bool] fun (ok1 : Bool) w14 =>
cond (!ok1) (
J1 true w14) (
cl Pg F.zigguratlaw02_from [s.v] w14 [.one .slice] fun (s9 : Sl) w15 =>
cl Pg F.zigguratref02_Low [s9.v, .int .i64 r1] w15 [.one .slice] fun (s10 : Sl) w16 =>
cl Pg F.zigguratref02_Same [s10.v, s4.v] w16 [.one .bool] fun (ok2 : Bool) w17 =>
J1 (!ok2) w17))) fun (x : Bool) w18 =>
cond x (
R (.bool false) w18) (
cl Pg F.zigguratkeep_Spoil [s2.v] w18 [] fun w19 =>
cl Pg F.zigguratkeep_Spoil [s3.v] w19 [] fun w20 =>
cl Pg F.zigguratkeep_Spoil [s4.v] w20 [] fun w21 =>
Jn [.bool] (fun J2 =>
cl Pg F.zigguratkeep_Intact [s1.v, s.v] w21 [.one .bool] fun (ok3 : Bool) w22 =>
cond ok3 (
cl Pg F.zigguratlaw02_wakes [] w22 [.one .bool] fun (ok4 : Bool) w23 =>
J2 ok4 w23) (
J2 false w22)) fun (x1 : Bool) w24 =>
R (.bool x1) w24)
def Dc.zigguratlaw02_LimbShifts : Dc := { N := 67, va := [], vb := [], ann := [(1, 4, [(1, .one (.int .i64))]), (0, 7, [(54, .one .bool)]), (0, 12, [(4, .one .bool)])], ext := Xt }
theorem Eq.zigguratlaw02_LimbShifts (a : Sl) (n : Int) (R : Value → TW → Prop) (w : TW) : denF Pg Dc.zigguratlaw02_LimbShifts Go.Proofs.Try.f12 (Go.Proofs.Try.f12.body.getD .skip) [a.v, .int .i64 n] w R = Sh.zigguratlaw02_LimbShifts a n R w := by kernel_rfl
theorem Ct.zigguratlaw02_LimbShifts {a : Sl} {n : Int} {w : TW} {X : Nat → Prop} {K : Tel (fl [.one .bool]) (TW → Prop)} (h : Sh.zigguratlaw02_LimbShifts a n (Rt X [.one .bool] K w) w.here) : Ct Pg F.zigguratlaw02_LimbShifts [a.v, .int .i64 n] w X [.one .bool] K :=
  ct_of_den (D := Dc.zigguratlaw02_LimbShifts) (fn := Go.Proofs.Try.f12) Xt_ok follows_ok (by kernel_rfl) (by kernel_rfl) (by kernel_rfl) (Eq.mpr (Eq.zigguratlaw02_LimbShifts a n _ _) h)

def Sh.zigguratlaw02_LimbDivs (a : Sl) (y : Int) (R : Value → TW → Prop) (w : TW) : Prop :=
cl Pg F.zigguratkeep_Cut [a.v, .int .i64 40] w [.one .slice] fun (s : Sl) w1 =>
cl Pg F.zigguratkeep_Lend [s.v] w1 [.one .slice] fun (s1 : Sl) w2 =>
cl Pg F.limb_DivWord [s1.v, .int .u64 y] w2 [.one .slice, .one (.int .u64), .one (.int .i64)] fun (s2 : Sl) (r : Int) (r1 : Int) w3 =>
cond ((y : Int) == 0) (
Jn [.bool] (fun J0 =>
cond ((r1 : Int) == 2) (
cond (((s2.n : Int) : Int) == 0) (
cond ((r : Int) == 0) (
cl Pg F.zigguratlaw02_wakes [] w3 [.one .bool] fun (ok : Bool) w4 =>
J0 ok w4) (
J0 false w3)) (
J0 false w3)) (
J0 false w3)) fun (x : Bool) w5 =>
R (.bool x) w5) (
cl Pg F.zigguratlaw02_from [s.v] w3 [.one .slice] fun (s3 : Sl) w6 =>
cl Pg F.zigguratref02_Small [.int .u64 y] w6 [.one .slice] fun (s4 : Sl) w7 =>
cl Pg F.zigguratref02_DivMod [s3.v, s4.v] w7 [.one .slice, .one .slice] fun (s5 : Sl) (s6 : Sl) w8 =>
Jn [.bool] (fun J1 =>
cond ((r1 : Int) == 0) (
cl Pg F.zigguratref02_Same [s5.v, s2.v] w8 [.one .bool] fun (ok1 : Bool) w9 =>
cond ok1 (
cl Pg F.zigguratref02_Small [.int .u64 r] w9 [.one .slice] fun (s7 : Sl) w10 =>
cl Pg F.zigguratref02_Cmp [s6.v, s7.v] w10 [.one (.int .i64)] fun (r2 : Int) w11 =>
cond ((r2 : Int) == 0) (
cl Pg F.zigguratkeep_Intact [s1.v, s.v] w11 [.one .bool] fun (ok2 : Bool) w12 =>
cond ok2 (
cl Pg F.zigguratlaw02_wakes [] w12 [.one .bool] fun (ok3 : Bool) w13 =>
J1 ok3 w13) (
J1 false w12)) (
J1 false w11)) (
J1 false w9)) (
J1 false w8)) fun (x1 : Bool) w14 =>
R (.bool x1) w14)
def Dc.zigguratlaw02_LimbDivs : Dc := { N := 68, va := [], vb := [], ann := [(0, 5, [(4, .one .bool)]), (0, 7, [(4, .one .bool)])], ext := Xt }
theorem Eq.zigguratlaw02_LimbDivs (a : Sl) (y : Int) (R : Value → TW → Prop) (w : TW) : denF Pg Dc.zigguratlaw02_LimbDivs Go.Proofs.Try.f13 (Go.Proofs.Try.f13.body.getD .skip) [a.v, .int .u64 y] w R = Sh.zigguratlaw02_LimbDivs a y R w := by kernel_rfl
theorem Ct.zigguratlaw02_LimbDivs {a : Sl} {y : Int} {w : TW} {X : Nat → Prop} {K : Tel (fl [.one .bool]) (TW → Prop)} (h : Sh.zigguratlaw02_LimbDivs a y (Rt X [.one .bool] K w) w.here) : Ct Pg F.zigguratlaw02_LimbDivs [a.v, .int .u64 y] w X [.one .bool] K :=
  ct_of_den (D := Dc.zigguratlaw02_LimbDivs) (fn := Go.Proofs.Try.f13) Xt_ok follows_ok (by kernel_rfl) (by kernel_rfl) (by kernel_rfl) (Eq.mpr (Eq.zigguratlaw02_LimbDivs a y _ _) h)

def Sh.zigguratlaw02_LimbLaws (a : Sl) (b : Sl) (y : Int) (n : Int) (R : Value → TW → Prop) (w : TW) : Prop :=
cl Pg F.zigguratkeep_Cut [a.v, .int .i64 40] w [.one .slice] fun (s : Sl) w1 =>
cl Pg F.zigguratkeep_Cut [b.v, .int .i64 40] w1 [.one .slice] fun (s1 : Sl) w2 =>
cl Pg F.limb_Add [s.v, s1.v] w2 [.one .slice] fun (s2 : Sl) w3 =>
cl Pg F.limb_Sub [s2.v, s1.v] w3 [.one .slice, .one .bool] fun (s3 : Sl) (ok : Bool) w4 =>
Jn [.bool] (fun J0 =>
cond (!ok) (
J0 true w4) (
cl Pg F.limb_Cmp [s3.v, s.v] w4 [.one (.int .i64)] fun (r : Int) w5 =>
cond ((r : Int) != 0) (
J0 true w5) (
cl Pg F.limb_Add [s1.v, s.v] w5 [.one .slice] fun (s4 : Sl) w6 =>
cl Pg F.limb_Cmp [s2.v, s4.v] w6 [.one (.int .i64)] fun (r1 : Int) w7 =>
cond ((r1 : Int) != 0) (
J0 true w7) (
nwb w7 [s.v, s1.v, s.v] T.api_Nat fun b1 w8 =>
cl Pg F.limb_Sum [.slice (some ⟨b1, 0, none⟩) 3 3] w8 [.one .slice] fun (s5 : Sl) w9 =>
cl Pg F.limb_Add [s2.v, s.v] w9 [.one .slice] fun (s6 : Sl) w10 =>
cl Pg F.limb_Cmp [s5.v, s6.v] w10 [.one (.int .i64)] fun (r2 : Int) w11 =>
J0 ((r2 : Int) != 0) w11)))) fun (x : Bool) w12 =>
cond x (
R (.bool false) w12) (
cl Pg F.limb_AddMul [s.v, s1.v, .int .u64 y] w12 [.one .slice] fun (s7 : Sl) w13 =>
cl Pg F.limb_SubMul [s7.v, s1.v, .int .u64 y] w13 [.one .slice, .one .bool] fun (s8 : Sl) (ok1 : Bool) w14 =>
cl Pg F.zigguratkeep_Within [.int .i64 n, .int .i64 500] w14 [.one (.int .i64)] fun (r3 : Int) w15 =>
Jn [.bool] (fun J1 =>
cond ok1 (
cl Pg F.limb_Cmp [s8.v, s.v] w15 [.one (.int .i64)] fun (r4 : Int) w16 =>
cond ((r4 : Int) == 0) (
cl Pg F.limb_Shl [s.v, .int .i64 r3] w16 [.one .slice] fun (s9 : Sl) w17 =>
cl Pg F.limb_Shr [s9.v, .int .i64 r3] w17 [.one .slice] fun (s10 : Sl) w18 =>
cl Pg F.limb_Cmp [s10.v, s.v] w18 [.one (.int .i64)] fun (r5 : Int) w19 =>
cond ((r5 : Int) == 0) (
cl Pg F.limb_Shr [s.v, .int .i64 r3] w19 [.one .slice] fun (s11 : Sl) w20 =>
cl Pg F.limb_Shl [s11.v, .int .i64 r3] w20 [.one .slice] fun (s12 : Sl) w21 =>
cl Pg F.limb_Low [s.v, .int .i64 r3] w21 [.one .slice] fun (s13 : Sl) w22 =>
cl Pg F.limb_Add [s12.v, s13.v] w22 [.one .slice] fun (s14 : Sl) w23 =>
cl Pg F.limb_Cmp [s14.v, s.v] w23 [.one (.int .i64)] fun (r6 : Int) w24 =>
cond ((r6 : Int) == 0) (
cl Pg F.zigguratlaw02_wakes [] w24 [.one .bool] fun (ok2 : Bool) w25 =>
J1 ok2 w25) (
J1 false w24)) (
J1 false w19)) (
J1 false w16)) (
J1 false w15)) fun (x1 : Bool) w26 =>
R (.bool x1) w26)
def Dc.zigguratlaw02_LimbLaws : Dc := { N := 101, va := [], vb := [], ann := [(0, 4, [(54, .one .bool)]), (0, 8, [(8, .one .bool)])], ext := Xt }
theorem Eq.zigguratlaw02_LimbLaws (a : Sl) (b : Sl) (y : Int) (n : Int) (R : Value → TW → Prop) (w : TW) : denF Pg Dc.zigguratlaw02_LimbLaws Go.Proofs.Try.f14 (Go.Proofs.Try.f14.body.getD .skip) [a.v, b.v, .int .u64 y, .int .i64 n] w R = Sh.zigguratlaw02_LimbLaws a b y n R w := by kernel_rfl
theorem Ct.zigguratlaw02_LimbLaws {a : Sl} {b : Sl} {y : Int} {n : Int} {w : TW} {X : Nat → Prop} {K : Tel (fl [.one .bool]) (TW → Prop)} (h : Sh.zigguratlaw02_LimbLaws a b y n (Rt X [.one .bool] K w) w.here) : Ct Pg F.zigguratlaw02_LimbLaws [a.v, b.v, .int .u64 y, .int .i64 n] w X [.one .bool] K :=
  ct_of_den (D := Dc.zigguratlaw02_LimbLaws) (fn := Go.Proofs.Try.f14) Xt_ok follows_ok (by kernel_rfl) (by kernel_rfl) (by kernel_rfl) (Eq.mpr (Eq.zigguratlaw02_LimbLaws a b y n _ _) h)

def Sh.zigguratlaw02_count (n : Int) (most : Int) (R : Value → TW → Prop) (w : TW) : Prop :=
bnd (if (0 : Int) > n then 0 else n) fun n1 =>
bnd (if (most : Int) < n1 then most else n1) fun n2 =>
R (.int .i64 n2) w
def Dc.zigguratlaw02_count : Dc := { N := 9, va := [], vb := [], ann := [], ext := Xt }
theorem Eq.zigguratlaw02_count (n : Int) (most : Int) (R : Value → TW → Prop) (w : TW) : denF Pg Dc.zigguratlaw02_count Go.Proofs.Try.f30 (Go.Proofs.Try.f30.body.getD .skip) [.int .i64 n, .int .i64 most] w R = Sh.zigguratlaw02_count n most R w := by kernel_rfl
theorem Ct.zigguratlaw02_count {n : Int} {most : Int} {w : TW} {X : Nat → Prop} {K : Tel (fl [.one (.int .i64)]) (TW → Prop)} (h : Sh.zigguratlaw02_count n most (Rt X [.one (.int .i64)] K w) w.here) : Ct Pg F.zigguratlaw02_count [.int .i64 n, .int .i64 most] w X [.one (.int .i64)] K :=
  ct_of_den (D := Dc.zigguratlaw02_count) (fn := Go.Proofs.Try.f30) Xt_ok follows_ok (by kernel_rfl) (by kernel_rfl) (by kernel_rfl) (Eq.mpr (Eq.zigguratlaw02_count n most _ _) h)

def Sh.zigguratlaw02_from (a : Sl) (R : Value → TW → Prop) (w : TW) : Prop :=
cl Pg F.zigguratref02_From [a.v] w [.one .slice] fun (s : Sl) w1 =>
R (s.v) w1
def Dc.zigguratlaw02_from : Dc := { N := 5, va := [], vb := [], ann := [], ext := Xt }
theorem Eq.zigguratlaw02_from (a : Sl) (R : Value → TW → Prop) (w : TW) : denF Pg Dc.zigguratlaw02_from Go.Proofs.Try.f31 (Go.Proofs.Try.f31.body.getD .skip) [a.v] w R = Sh.zigguratlaw02_from a R w := by kernel_rfl
theorem Ct.zigguratlaw02_from {a : Sl} {w : TW} {X : Nat → Prop} {K : Tel (fl [.one .slice]) (TW → Prop)} (h : Sh.zigguratlaw02_from a (Rt X [.one .slice] K w) w.here) : Ct Pg F.zigguratlaw02_from [a.v] w X [.one .slice] K :=
  ct_of_den (D := Dc.zigguratlaw02_from) (fn := Go.Proofs.Try.f31) Xt_ok follows_ok (by kernel_rfl) (by kernel_rfl) (by kernel_rfl) (Eq.mpr (Eq.zigguratlaw02_from a _ _) h)

def Sh.zigguratlaw02_wakes (R : Value → TW → Prop) (w : TW) : Prop :=
nwb w [.int .u64 1] T.uint64 fun b w1 =>
cl Pg F.limb_Sub [.slice none 0 0, .slice (some ⟨b, 0, none⟩) 1 1] w1 [.one .slice, .one .bool] fun (s : Sl) (ok : Bool) w2 =>
Jn [.bool] (fun J0 =>
cond (!ok) (
cond (((s.n : Int) : Int) == 0) (
nwb w2 [.int .u64 5] T.uint64 fun b1 w3 =>
nwb w3 [.int .u64 7] T.uint64 fun b2 w4 =>
nwb w4 [.slice (some ⟨b1, 0, none⟩) 1 1, .slice (some ⟨b2, 0, none⟩) 1 1] T.api_Nat fun b3 w5 =>
cl Pg F.limb_Join [.int .i64 1, .slice (some ⟨b3, 0, none⟩) 2 2] w5 [.one .slice] fun (s1 : Sl) w6 =>
nwb w6 [.int .u64 5, .int .u64 7] T.uint64 fun b4 w7 =>
cl Pg F.zigguratkeep_Same [s1.v, .slice (some ⟨b4, 0, none⟩) 2 2] w7 [.one .bool] fun (ok1 : Bool) w8 =>
cond ok1 (
cl Pg F.limb_One [.int .u64 3] w8 [.one .slice] fun (s2 : Sl) w9 =>
nwb w9 [.int .u64 3] T.uint64 fun b5 w10 =>
cl Pg F.zigguratkeep_Same [s2.v, .slice (some ⟨b5, 0, none⟩) 1 1] w10 [.one .bool] fun (ok2 : Bool) w11 =>
J0 ok2 w11) (
J0 false w8)) (
J0 false w2)) (
J0 false w2)) fun (x : Bool) w12 =>
R (.bool x) w12
def Dc.zigguratlaw02_wakes : Dc := { N := 28, va := [], vb := [], ann := [(0, 2, [(0, .one .bool)])], ext := Xt }
theorem Eq.zigguratlaw02_wakes (R : Value → TW → Prop) (w : TW) : denF Pg Dc.zigguratlaw02_wakes Go.Proofs.Try.f34 (Go.Proofs.Try.f34.body.getD .skip) [] w R = Sh.zigguratlaw02_wakes R w := by kernel_rfl
theorem Ct.zigguratlaw02_wakes {w : TW} {X : Nat → Prop} {K : Tel (fl [.one .bool]) (TW → Prop)} (h : Sh.zigguratlaw02_wakes (Rt X [.one .bool] K w) w.here) : Ct Pg F.zigguratlaw02_wakes [] w X [.one .bool] K :=
  ct_of_den (D := Dc.zigguratlaw02_wakes) (fn := Go.Proofs.Try.f34) Xt_ok follows_ok (by kernel_rfl) (by kernel_rfl) (by kernel_rfl) (Eq.mpr (Eq.zigguratlaw02_wakes _ _) h)
end Go.Proofs.Ythhohfgpaihngaa.Zg
