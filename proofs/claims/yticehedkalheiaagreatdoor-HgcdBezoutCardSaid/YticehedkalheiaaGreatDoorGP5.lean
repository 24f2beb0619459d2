/- A part of the proofs of this seat's laws: words, lemmas or contracts of its functions. -/
import Derived.Test.YticehedkalheiaaGreatDoorGC
set_option linter.unusedVariables false
set_option linter.unusedSimpArgs false
set_option linter.unnecessarySimpa false
section
set_option maxRecDepth 100000
namespace Go.Proofs.YticehedkalheiaaGreatDoor.Zg
def Sh.zigguratref17_SameM (m0 : Sl) (m1 : Sl) (m2 : Sl) (m3 : Sl) (n0 : Sl) (n1 : Sl) (n2 : Sl) (n3 : Sl) (R : Value → TW → Prop) (w : TW) : Prop :=
nwv w fun w1 =>
nwv w1 fun w2 =>
Jn [.bool] (fun J0 =>
cl Pg F.zigguratref02_Same [m0.v, n0.v] w2 [.one .bool] fun (ok : Bool) w3 =>
cond ok (
cl Pg F.zigguratref02_Same [m1.v, n1.v] w3 [.one .bool] fun (ok1 : Bool) w4 =>
cond ok1 (
cl Pg F.zigguratref02_Same [m2.v, n2.v] w4 [.one .bool] fun (ok2 : Bool) w5 =>
cond ok2 (
cl Pg F.zigguratref02_Same [m3.v, n3.v] w5 [.one .bool] fun (ok3 : Bool) w6 =>
J0 ok3 w6) (
J0 false w5)) (
J0 false w4)) (
J0 false w3)) fun (x : Bool) w7 =>
R (.bool x) w7
theorem Ct.zigguratref17_SameM {m0 : Sl} {m1 : Sl} {m2 : Sl} {m3 : Sl} {n0 : Sl} {n1 : Sl} {n2 : Sl} {n3 : Sl} {w : TW} {X : Nat → Prop} {K : Tel (fl [.one .bool]) (TW → Prop)} (h : Sh.zigguratref17_SameM m0 m1 m2 m3 n0 n1 n2 n3 (Rt X [.one .bool] K w) w.here) : Ct Pg F.zigguratref17_SameM [.agg #[m0.v, m1.v, m2.v, m3.v], .agg #[n0.v, n1.v, n2.v, n3.v]] w X [.one .bool] K :=
  cod (Sh.zigguratref17_SameM m0 m1 m2 m3 n0 n1 n2 n3) 31 [(2, 31), (3, 35)] [(31, 4), (35, 4)] [(0, 1, [(4, .one .bool)])] Go.Proofs.Tryz.f27 (by kernel_rfl) (by kernel_rfl) (by kernel_rfl) (fun _ _ => by kernel_rfl) h
def Sh.zigguratref17_To (a0 : Sl) (a1 : Bool) (R : Value → TW → Prop) (w : TW) : Prop :=
nwv w fun w1 =>
nwv w1 fun w2 =>
cl Pg F.zigguratref02_To [a0.v] w2.drew [.one .slice] fun (s : Sl) w3 =>
nwv w3 fun w4 =>
R (.agg #[s.v, .bool a1]) w4
theorem Ct.zigguratref17_To {a0 : Sl} {a1 : Bool} {w : TW} {X : Nat → Prop} {K : Tel (fl [.agg [.slice, .bool]]) (TW → Prop)} (h : Sh.zigguratref17_To a0 a1 (Rt X [.agg [.slice, .bool]] K w) w.here) : Ct Pg F.zigguratref17_To [.agg #[a0.v, .bool a1]] w X [.agg [.slice, .bool]] K :=
  cod (Sh.zigguratref17_To a0 a1) 9 [(1, 9), (2, 11)] [(9, 2), (11, 2)] [] Go.Proofs.Tryz.f34 (by kernel_rfl) (by kernel_rfl) (by kernel_rfl) (fun _ _ => by kernel_rfl) h
def Sh.zigguratref17_Unit (R : Value → TW → Prop) (w : TW) : Prop :=
nwv w fun w1 =>
cl Pg F.zigguratref02_Small [.int .u64 1] w1 [.one .slice] fun (s : Sl) w2 =>
nwv w2 fun w3 =>
R (.agg #[s.v, .slice none 0 0, .slice none 0 0, s.v]) w3
theorem Ct.zigguratref17_Unit {w : TW} {X : Nat → Prop} {K : Tel (fl [.agg [.slice, .slice, .slice, .slice]]) (TW → Prop)} (h : Sh.zigguratref17_Unit (Rt X [.agg [.slice, .slice, .slice, .slice]] K w) w.here) : Ct Pg F.zigguratref17_Unit [] w X [.agg [.slice, .slice, .slice, .slice]] K :=
  cod Sh.zigguratref17_Unit 6 [(0, 6)] [(6, 4)] [] Go.Proofs.Tryz.f58 (by kernel_rfl) (by kernel_rfl) (by kernel_rfl) (fun _ _ => by kernel_rfl) h
def Sh.zigguratref17_Times (x0 : Sl) (x1 : Sl) (x2 : Sl) (x3 : Sl) (y0 : Sl) (y1 : Sl) (y2 : Sl) (y3 : Sl) (R : Value → TW → Prop) (w : TW) : Prop :=
nwv w fun w1 =>
nwv w1 fun w2 =>
nwv w2 fun w3 =>
cl Pg F.zigguratref17_both [x0.v, y0.v, x1.v, y2.v] w3.drew [.one .slice] fun (s : Sl) w4 =>
cl Pg F.zigguratref17_both [x0.v, y1.v, x1.v, y3.v] w4 [.one .slice] fun (s1 : Sl) w5 =>
cl Pg F.zigguratref17_both [x2.v, y0.v, x3.v, y2.v] w5 [.one .slice] fun (s2 : Sl) w6 =>
cl Pg F.zigguratref17_both [x2.v, y1.v, x3.v, y3.v] w6 [.one .slice] fun (s3 : Sl) w7 =>
nwv w7 fun w8 =>
R (.agg #[s.v, s1.v, s2.v, s3.v]) w8
theorem Ct.zigguratref17_Times {x0 : Sl} {x1 : Sl} {x2 : Sl} {x3 : Sl} {y0 : Sl} {y1 : Sl} {y2 : Sl} {y3 : Sl} {w : TW} {X : Nat → Prop} {K : Tel (fl [.agg [.slice, .slice, .slice, .slice]]) (TW → Prop)} (h : Sh.zigguratref17_Times x0 x1 x2 x3 y0 y1 y2 y3 (Rt X [.agg [.slice, .slice, .slice, .slice]] K w) w.here) : Ct Pg F.zigguratref17_Times [.agg #[x0.v, x1.v, x2.v, x3.v], .agg #[y0.v, y1.v, y2.v, y3.v]] w X [.agg [.slice, .slice, .slice, .slice]] K :=
  cod (Sh.zigguratref17_Times x0 x1 x2 x3 y0 y1 y2 y3) 42 [(2, 42), (3, 46), (4, 50)] [(42, 4), (46, 4), (50, 4)] [] Go.Proofs.Tryz.f60 (by kernel_rfl) (by kernel_rfl) (by kernel_rfl) (fun _ _ => by kernel_rfl) h
def Sh.zigguratref17_FromM (m0 : Sl) (m1 : Sl) (m2 : Sl) (m3 : Sl) (R : Value → TW → Prop) (w : TW) : Prop :=
nwv w fun w1 =>
nwv w1 fun w2 =>
cl Pg F.zigguratref02_From [m0.v] w2.drew [.one .slice] fun (s : Sl) w3 =>
cl Pg F.zigguratref02_From [m1.v] w3 [.one .slice] fun (s1 : Sl) w4 =>
cl Pg F.zigguratref02_From [m2.v] w4 [.one .slice] fun (s2 : Sl) w5 =>
cl Pg F.zigguratref02_From [m3.v] w5 [.one .slice] fun (s3 : Sl) w6 =>
nwv w6 fun w7 =>
R (.agg #[s.v, s1.v, s2.v, s3.v]) w7
theorem Ct.zigguratref17_FromM {m0 : Sl} {m1 : Sl} {m2 : Sl} {m3 : Sl} {w : TW} {X : Nat → Prop} {K : Tel (fl [.agg [.slice, .slice, .slice, .slice]]) (TW → Prop)} (h : Sh.zigguratref17_FromM m0 m1 m2 m3 (Rt X [.agg [.slice, .slice, .slice, .slice]] K w) w.here) : Ct Pg F.zigguratref17_FromM [.agg #[m0.v, m1.v, m2.v, m3.v]] w X [.agg [.slice, .slice, .slice, .slice]] K :=
  cod (Sh.zigguratref17_FromM m0 m1 m2 m3) 16 [(1, 16), (2, 20)] [(16, 4), (20, 4)] [] Go.Proofs.Tryz.f61 (by kernel_rfl) (by kernel_rfl) (by kernel_rfl) (fun _ _ => by kernel_rfl) h
def Sh.zigguratref17_Apply (m0 : Sl) (m1 : Sl) (m2 : Sl) (m3 : Sl) (a : Sl) (b : Sl) (R : Value → TW → Prop) (w : TW) : Prop :=
nwv w fun w1 =>
cl Pg F.zigguratref02_Mul [m0.v, a.v] w1.drew [.one .slice] fun (s : Sl) w2 =>
cl Pg F.zigguratref02_Mul [m1.v, b.v] w2 [.one .slice] fun (s1 : Sl) w3 =>
cl Pg F.zigguratref02_Add [s.v, s1.v] w3 [.one .slice] fun (s2 : Sl) w4 =>
cl Pg F.zigguratref02_Mul [m2.v, a.v] w4 [.one .slice] fun (s3 : Sl) w5 =>
cl Pg F.zigguratref02_Mul [m3.v, b.v] w5 [.one .slice] fun (s4 : Sl) w6 =>
cl Pg F.zigguratref02_Add [s3.v, s4.v] w6 [.one .slice] fun (s5 : Sl) w7 =>
R (.tuple #[s2.v, s5.v]) w7
theorem Ct.zigguratref17_Apply {m0 : Sl} {m1 : Sl} {m2 : Sl} {m3 : Sl} {a : Sl} {b : Sl} {w : TW} {X : Nat → Prop} {K : Tel (fl [.one .slice, .one .slice]) (TW → Prop)} (h : Sh.zigguratref17_Apply m0 m1 m2 m3 a b (Rt X [.one .slice, .one .slice] K w) w.here) : Ct Pg F.zigguratref17_Apply [.agg #[m0.v, m1.v, m2.v, m3.v], a.v, b.v] w X [.one .slice, .one .slice] K :=
  cod (Sh.zigguratref17_Apply m0 m1 m2 m3 a b) 26 [(3, 26)] [(26, 4)] [] Go.Proofs.Tryz.f63 (by kernel_rfl) (by kernel_rfl) (by kernel_rfl) (fun _ _ => by kernel_rfl) h
def Sh.zigguratref17_Add (a0 : Sl) (a1 : Bool) (b0 : Sl) (b1 : Bool) (R : Value → TW → Prop) (w : TW) : Prop :=
nwv w fun w1 =>
nwv w1 fun w2 =>
nwv w2 fun w3 =>
cond (a1 == b1) (
cl Pg F.zigguratref02_Add [a0.v, b0.v] w3.drew [.one .slice] fun (s : Sl) w4 =>
cl Pg F.zigguratref17_made [s.v, .bool a1] w4 [.agg [.slice, .bool]] fun (r : Sl) (r1 : Bool) w5 =>
nwv w5 fun w6 =>
R (.agg #[r.v, .bool r1]) w6) (
cl Pg F.zigguratref02_Cmp [a0.v, b0.v] w3 [.one (.int .i64)] fun (r2 : Int) w7 =>
cond (decide ((r2 : Int) ≥ 0)) (
cl Pg F.zigguratref02_Sub [a0.v, b0.v] w7.drew [.one .slice] fun (s1 : Sl) w8 =>
cl Pg F.zigguratref17_made [s1.v, .bool a1] w8 [.agg [.slice, .bool]] fun (r3 : Sl) (r4 : Bool) w9 =>
nwv w9 fun w10 =>
R (.agg #[r3.v, .bool r4]) w10) (
cl Pg F.zigguratref02_Sub [b0.v, a0.v] w7.drew [.one .slice] fun (s2 : Sl) w11 =>
cl Pg F.zigguratref17_made [s2.v, .bool b1] w11 [.agg [.slice, .bool]] fun (r5 : Sl) (r6 : Bool) w12 =>
nwv w12 fun w13 =>
R (.agg #[r5.v, .bool r6]) w13))
theorem Ct.zigguratref17_Add {a0 : Sl} {a1 : Bool} {b0 : Sl} {b1 : Bool} {w : TW} {X : Nat → Prop} {K : Tel (fl [.agg [.slice, .bool]]) (TW → Prop)} (h : Sh.zigguratref17_Add a0 a1 b0 b1 (Rt X [.agg [.slice, .bool]] K w) w.here) : Ct Pg F.zigguratref17_Add [.agg #[a0.v, .bool a1], .agg #[b0.v, .bool b1]] w X [.agg [.slice, .bool]] K :=
  cod (Sh.zigguratref17_Add a0 a1 b0 b1) 40 [(2, 40), (3, 42), (4, 44)] [(40, 2), (42, 2), (44, 2)] [] Go.Proofs.Tryz.f70 (by kernel_rfl) (by kernel_rfl) (by kernel_rfl) (fun _ _ => by kernel_rfl) h
def Sh.zigguratref17_Mul (a0 : Sl) (a1 : Bool) (b0 : Sl) (b1 : Bool) (R : Value → TW → Prop) (w : TW) : Prop :=
nwv w fun w1 =>
nwv w1 fun w2 =>
nwv w2 fun w3 =>
cl Pg F.zigguratref02_Mul [a0.v, b0.v] w3.drew [.one .slice] fun (s : Sl) w4 =>
cl Pg F.zigguratref17_made [s.v, .bool (!(a1 == b1))] w4 [.agg [.slice, .bool]] fun (r : Sl) (r1 : Bool) w5 =>
nwv w5 fun w6 =>
R (.agg #[r.v, .bool r1]) w6
theorem Ct.zigguratref17_Mul {a0 : Sl} {a1 : Bool} {b0 : Sl} {b1 : Bool} {w : TW} {X : Nat → Prop} {K : Tel (fl [.agg [.slice, .bool]]) (TW → Prop)} (h : Sh.zigguratref17_Mul a0 a1 b0 b1 (Rt X [.agg [.slice, .bool]] K w) w.here) : Ct Pg F.zigguratref17_Mul [.agg #[a0.v, .bool a1], .agg #[b0.v, .bool b1]] w X [.agg [.slice, .bool]] K :=
  cod (Sh.zigguratref17_Mul a0 a1 b0 b1) 16 [(2, 16), (3, 18), (4, 20)] [(16, 2), (18, 2), (20, 2)] [] Go.Proofs.Tryz.f71 (by kernel_rfl) (by kernel_rfl) (by kernel_rfl) (fun _ _ => by kernel_rfl) h
def Sh.zigguratref17_From (a0 : Sl) (a1 : Bool) (R : Value → TW → Prop) (w : TW) : Prop :=
nwv w fun w1 =>
nwv w1 fun w2 =>
cl Pg F.zigguratref02_From [a0.v] w2.drew [.one .slice] fun (s : Sl) w3 =>
cl Pg F.zigguratref17_made [s.v, .bool a1] w3 [.agg [.slice, .bool]] fun (r : Sl) (r1 : Bool) w4 =>
nwv w4 fun w5 =>
R (.agg #[r.v, .bool r1]) w5
theorem Ct.zigguratref17_From {a0 : Sl} {a1 : Bool} {w : TW} {X : Nat → Prop} {K : Tel (fl [.agg [.slice, .bool]]) (TW → Prop)} (h : Sh.zigguratref17_From a0 a1 (Rt X [.agg [.slice, .bool]] K w) w.here) : Ct Pg F.zigguratref17_From [.agg #[a0.v, .bool a1]] w X [.agg [.slice, .bool]] K :=
  cod (Sh.zigguratref17_From a0 a1) 9 [(1, 9), (2, 11)] [(9, 2), (11, 2)] [] Go.Proofs.Tryz.f72 (by kernel_rfl) (by kernel_rfl) (by kernel_rfl) (fun _ _ => by kernel_rfl) h
def Sh.zigguratref17_both (a : Sl) (b : Sl) (c : Sl) (d : Sl) (R : Value → TW → Prop) (w : TW) : Prop :=
cl Pg F.zigguratref02_Mul [a.v, b.v] w [.one .slice] fun (s : Sl) w1 =>
cl Pg F.zigguratref02_Mul [c.v, d.v] w1 [.one .slice] fun (s1 : Sl) w2 =>
cl Pg F.zigguratref02_Add [s.v, s1.v] w2 [.one .slice] fun (s2 : Sl) w3 =>
R (s2.v) w3
theorem Ct.zigguratref17_both {a : Sl} {b : Sl} {c : Sl} {d : Sl} {w : TW} {X : Nat → Prop} {K : Tel (fl [.one .slice]) (TW → Prop)} (h : Sh.zigguratref17_both a b c d (Rt X [.one .slice] K w) w.here) : Ct Pg F.zigguratref17_both [a.v, b.v, c.v, d.v] w X [.one .slice] K :=
  cod (Sh.zigguratref17_both a b c d) 16 [] [] [] Go.Proofs.Tryz.f121 (by kernel_rfl) (by kernel_rfl) (by kernel_rfl) (fun _ _ => by kernel_rfl) h
def Sh.zigguratref17_made (n : Sl) (neg : Bool) (R : Value → TW → Prop) (w : TW) : Prop :=
nwv w fun w1 =>
Jn [.slice, .bool] (fun J0 =>
cond neg (
cl Pg F.zigguratref02_Zero [n.v] w1 [.one .bool] fun (ok : Bool) w2 =>
nwv w2 fun w3 =>
J0 n (!ok) w3) (
nwv w1 fun w4 =>
J0 n false w4)) fun (x : Sl) (x1 : Bool) w5 =>
R (.agg #[x.v, .bool x1]) w5
theorem Ct.zigguratref17_made {n : Sl} {neg : Bool} {w : TW} {X : Nat → Prop} {K : Tel (fl [.agg [.slice, .bool]]) (TW → Prop)} (h : Sh.zigguratref17_made n neg (Rt X [.agg [.slice, .bool]] K w) w.here) : Ct Pg F.zigguratref17_made [n.v, .bool neg] w X [.agg [.slice, .bool]] K :=
  cod (Sh.zigguratref17_made n neg) 13 [(4, 13)] [(13, 2)] [(0, 1, [(13, .one .slice), (14, .one .bool)])] Go.Proofs.Tryz.f124 (by kernel_rfl) (by kernel_rfl) (by kernel_rfl) (fun _ _ => by kernel_rfl) h
end Go.Proofs.YticehedkalheiaaGreatDoor.Zg
end
