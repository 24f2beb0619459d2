/- What each function of Go's package 'zigguratkeep' does, step by step (its reading), and that its contract follows from that. Written by genseat.py. -/
import Derived.Test.YthhohfgpaihngaaZgX
set_option linter.unusedVariables false
set_option linter.unusedSimpArgs false
set_option linter.unnecessarySimpa false
set_option maxRecDepth 100000
namespace Go.Proofs.Ythhohfgpaihngaa.Zg
def Sh.zigguratkeep_Cut (a : Sl) (n : Int) (R : Value → TW → Prop) (w : TW) : Prop :=
bnd (if (n : Int) < (a.n : Int) then n else (a.n : Int)) fun n1 =>
slc a 0 n1 1 fun s =>
R (s.v) w
def Dc.zigguratkeep_Cut : Dc := { N := 11, va := [], vb := [], ann := [], ext := Xt }
theorem Eq.zigguratkeep_Cut (a : Sl) (n : Int) (R : Value → TW → Prop) (w : TW) : denF Pg Dc.zigguratkeep_Cut Go.Proofs.Try.f15 (Go.Proofs.Try.f15.body.getD .skip) [a.v, .int .i64 n] w R = Sh.zigguratkeep_Cut a n R w := by kernel_rfl
theorem Ct.zigguratkeep_Cut {a : Sl} {n : Int} {w : TW} {X : Nat → Prop} {K : Tel (fl [.one .slice]) (TW → Prop)} (h : Sh.zigguratkeep_Cut a n (Rt X [.one .slice] K w) w.here) : Ct Pg F.zigguratkeep_Cut [a.v, .int .i64 n] w X [.one .slice] K :=
  ct_of_den (D := Dc.zigguratkeep_Cut) (fn := Go.Proofs.Try.f15) Xt_ok follows_ok (by kernel_rfl) (by kernel_rfl) (by kernel_rfl) (Eq.mpr (Eq.zigguratkeep_Cut a n _ _) h)

def Sh.zigguratkeep_Lend (a : Sl) (R : Value → TW → Prop) (w : TW) : Prop :=
bnd (wi ((a.n : Int) + 4)) fun n =>
mks w (a.n : Int) n T.uint64 8 [.int .u64 0] fun s w1 =>
cpy w1 T.uint64 s a fun _ w2 =>
bnd (wi ((a.n : Int) + 4)) fun n2 =>
slc s 0 n2 1 fun s1 =>
Jn [] (fun J0 =>
Lp [.int .i64] (fun (i : Int) w3 C0 =>
cond (decide ((i : Int) < (s1.n : Int))) (
ixa s1 i 1 fun a1 =>
stc w3 a1 (.int .u64 6148914691236517205) fun w4 =>
bnd (wi (i + 1)) fun n3 =>
C0 n3 w4) (
J0 w3)) (a.n : Int) w2) fun  w5 =>
R (s.v) w5
def Dc.zigguratkeep_Lend : Dc := { N := 32, va := [], vb := [], ann := [(2, 0, []), (3, 5, [(5, .one (.int .i64))])], ext := Xt }
theorem Eq.zigguratkeep_Lend (a : Sl) (R : Value → TW → Prop) (w : TW) : denF Pg Dc.zigguratkeep_Lend Go.Proofs.Try.f17 (Go.Proofs.Try.f17.body.getD .skip) [a.v] w R = Sh.zigguratkeep_Lend a R w := by kernel_rfl
theorem Ct.zigguratkeep_Lend {a : Sl} {w : TW} {X : Nat → Prop} {K : Tel (fl [.one .slice]) (TW → Prop)} (h : Sh.zigguratkeep_Lend a (Rt X [.one .slice] K w) w.here) : Ct Pg F.zigguratkeep_Lend [a.v] w X [.one .slice] K :=
  ct_of_den (D := Dc.zigguratkeep_Lend) (fn := Go.Proofs.Try.f17) Xt_ok follows_ok (by kernel_rfl) (by kernel_rfl) (by kernel_rfl) (Eq.mpr (Eq.zigguratkeep_Lend a _ _) h)

def Sh.zigguratkeep_Spoil (a : Sl) (R : Value → TW → Prop) (w : TW) : Prop :=
slc a 0 (a.c : Int) 1 fun s =>
Jn [] (fun J0 =>
Lp [.int .i64] (fun (i : Int) w1 C0 =>
cond (decide ((i : Int) < (s.n : Int))) (
ixa s i 1 fun a1 =>
stc w1 a1 (.int .u64 8608480567731124087) fun w2 =>
bnd (wi (i + 1)) fun n =>
C0 n w2) (
J0 w1)) 0 w) fun  w3 =>
R (.tuple #[]) w3
def Dc.zigguratkeep_Spoil : Dc := { N := 17, va := [], vb := [], ann := [(2, 0, []), (3, 2, [(3, .one (.int .i64))])], ext := Xt }
theorem Eq.zigguratkeep_Spoil (a : Sl) (R : Value → TW → Prop) (w : TW) : denF Pg Dc.zigguratkeep_Spoil Go.Proofs.Try.f23 (Go.Proofs.Try.f23.body.getD .skip) [a.v] w R = Sh.zigguratkeep_Spoil a R w := by kernel_rfl
theorem Ct.zigguratkeep_Spoil {a : Sl} {w : TW} {X : Nat → Prop} {K : Tel (fl []) (TW → Prop)} (h : Sh.zigguratkeep_Spoil a (Rt X [] K w) w.here) : Ct Pg F.zigguratkeep_Spoil [a.v] w X [] K :=
  ct_of_den (D := Dc.zigguratkeep_Spoil) (fn := Go.Proofs.Try.f23) Xt_ok follows_ok (by kernel_rfl) (by kernel_rfl) (by kernel_rfl) (Eq.mpr (Eq.zigguratkeep_Spoil a _ _) h)

def Sh.zigguratkeep_Intact (out : Sl) (a : Sl) (R : Value → TW → Prop) (w : TW) : Prop :=
Jn [.bool] (fun J0 =>
cond (((out.n : Int) : Int) != (a.n : Int)) (
J0 true w) (
bnd (wi ((a.n : Int) + 4)) fun n =>
J0 (((out.c : Int) : Int) != n) w)) fun (x : Bool) w1 =>
cond x (
R (.bool false) w1) (
bnd (wi ((a.n : Int) + 4)) fun n1 =>
slc out 0 n1 1 fun s =>
Jn [] (fun J1 =>
Lp [.int .i64] (fun (i : Int) w2 C0 =>
cond (decide ((i : Int) < (s.n : Int))) (
Jn [.bool] (fun J2 =>
cond (decide ((i : Int) < (a.n : Int))) (
ixa s i 1 fun a1 =>
ldc (.int .u64) w2.drew a1 fun (v : Int) =>
ixa a i 1 fun a2 =>
ldc (.int .u64) w2.drew a2 fun (v1 : Int) =>
cond ((v : Int) != v1) (
J2 true w2.drew) (
cond (decide ((i : Int) ≥ (a.n : Int))) (
ixa s i 1 fun a3 =>
ldc (.int .u64) w2.drew a3 fun (v2 : Int) =>
J2 ((v2 : Int) != 6148914691236517205) w2.drew) (
J2 false w2.drew))) (
cond (decide ((i : Int) ≥ (a.n : Int))) (
ixa s i 1 fun a4 =>
ldc (.int .u64) w2.drew a4 fun (v3 : Int) =>
J2 ((v3 : Int) != 6148914691236517205) w2.drew) (
J2 false w2.drew))) fun (x1 : Bool) w3 =>
cond x1 (
R (.bool false) w3) (
bnd (wi (i + 1)) fun n2 =>
C0 n2 w3)) (
J1 w2)) 0 w1) fun  w4 =>
R (.bool true) w4)
def Dc.zigguratkeep_Intact : Dc := { N := 59, va := [], vb := [], ann := [(0, 1, [(19, .one .bool)]), (2, 0, []), (3, 5, [(6, .one (.int .i64))]), (0, 7, [(58, .one .bool)])], ext := Xt }
theorem Eq.zigguratkeep_Intact (out : Sl) (a : Sl) (R : Value → TW → Prop) (w : TW) : denF Pg Dc.zigguratkeep_Intact Go.Proofs.Try.f24 (Go.Proofs.Try.f24.body.getD .skip) [out.v, a.v] w R = Sh.zigguratkeep_Intact out a R w := by kernel_rfl
theorem Ct.zigguratkeep_Intact {out : Sl} {a : Sl} {w : TW} {X : Nat → Prop} {K : Tel (fl [.one .bool]) (TW → Prop)} (h : Sh.zigguratkeep_Intact out a (Rt X [.one .bool] K w) w.here) : Ct Pg F.zigguratkeep_Intact [out.v, a.v] w X [.one .bool] K :=
  ct_of_den (D := Dc.zigguratkeep_Intact) (fn := Go.Proofs.Try.f24) Xt_ok follows_ok (by kernel_rfl) (by kernel_rfl) (by kernel_rfl) (Eq.mpr (Eq.zigguratkeep_Intact out a _ _) h)

def Sh.zigguratkeep_Cuts (l : Sl) (k : Int) (n : Int) (R : Value → TW → Prop) (w : TW) : Prop :=
Jn [.slice] (fun J0 =>
Lp [.slice, .int .i64] (fun (out : Sl) (i : Int) w1 C0 =>
Jn [.bool] (fun J1 =>
cond (decide ((i : Int) < (l.n : Int))) (
J1 (decide ((i : Int) < k)) w1) (
J1 false w1)) fun (x : Bool) w2 =>
cond x (
ixa l i 1 fun a =>
ldc (.slice) w2 a fun (v : Sl) =>
cl Pg F.zigguratkeep_Cut [v.v, .int .i64 n] w2 [.one .slice] fun (s : Sl) w3 =>
nwb w3 [s.v] T.s_uint64 fun b w4 =>
apd w4 T.s_uint64 1 24 out ⟨(some ⟨b, 0, none⟩), 1, 1⟩ fun s1 w5 =>
bnd (wi (i + 1)) fun n1 =>
C0 s1 n1 w5) (
J0 out w2)) Sl.nil 0 w) fun (out1 : Sl) w6 =>
R (out1.v) w6
def Dc.zigguratkeep_Cuts : Dc := { N := 30, va := [], vb := [], ann := [(2, 0, [(7, .one .slice)]), (3, 3, [(7, .one .slice), (8, .one (.int .i64))]), (0, 3, [(17, .one .bool)])], ext := Xt }
theorem Eq.zigguratkeep_Cuts (l : Sl) (k : Int) (n : Int) (R : Value → TW → Prop) (w : TW) : denF Pg Dc.zigguratkeep_Cuts Go.Proofs.Try.f26 (Go.Proofs.Try.f26.body.getD .skip) [l.v, .int .i64 k, .int .i64 n] w R = Sh.zigguratkeep_Cuts l k n R w := by kernel_rfl
theorem Ct.zigguratkeep_Cuts {l : Sl} {k : Int} {n : Int} {w : TW} {X : Nat → Prop} {K : Tel (fl [.one .slice]) (TW → Prop)} (h : Sh.zigguratkeep_Cuts l k n (Rt X [.one .slice] K w) w.here) : Ct Pg F.zigguratkeep_Cuts [l.v, .int .i64 k, .int .i64 n] w X [.one .slice] K :=
  ct_of_den (D := Dc.zigguratkeep_Cuts) (fn := Go.Proofs.Try.f26) Xt_ok follows_ok (by kernel_rfl) (by kernel_rfl) (by kernel_rfl) (Eq.mpr (Eq.zigguratkeep_Cuts l k n _ _) h)

def Sh.zigguratkeep_Within (v : Int) (n : Int) (R : Value → TW → Prop) (w : TW) : Prop :=
cond (decide ((n : Int) < 1)) (
R (.int .i64 0) w) (
remK v n fun n1 =>
Jn [.int .i64] (fun J0 =>
cond (decide ((n1 : Int) < 0)) (
bnd (wi (n1 + n)) fun n2 =>
J0 n2 w) (
J0 n1 w)) fun (k : Int) w1 =>
R (.int .i64 k) w1)
def Dc.zigguratkeep_Within : Dc := { N := 17, va := [], vb := [], ann := [(1, 5, [(5, .one (.int .i64))])], ext := Xt }
theorem Eq.zigguratkeep_Within (v : Int) (n : Int) (R : Value → TW → Prop) (w : TW) : denF Pg Dc.zigguratkeep_Within Go.Proofs.Try.f27 (Go.Proofs.Try.f27.body.getD .skip) [.int .i64 v, .int .i64 n] w R = Sh.zigguratkeep_Within v n R w := by kernel_rfl
theorem Ct.zigguratkeep_Within {v : Int} {n : Int} {w : TW} {X : Nat → Prop} {K : Tel (fl [.one (.int .i64)]) (TW → Prop)} (h : Sh.zigguratkeep_Within v n (Rt X [.one (.int .i64)] K w) w.here) : Ct Pg F.zigguratkeep_Within [.int .i64 v, .int .i64 n] w X [.one (.int .i64)] K :=
  ct_of_den (D := Dc.zigguratkeep_Within) (fn := Go.Proofs.Try.f27) Xt_ok follows_ok (by kernel_rfl) (by kernel_rfl) (by kernel_rfl) (Eq.mpr (Eq.zigguratkeep_Within v n _ _) h)

def Sh.zigguratkeep_Nats (l : Sl) (R : Value → TW → Prop) (w : TW) : Prop :=
Jn [.slice] (fun J0 =>
Lp [.slice, .int .i64] (fun (out : Sl) (i : Int) w1 C0 =>
cond (decide ((i : Int) < (l.n : Int))) (
ixa l i 1 fun a =>
ldc (.slice) w1 a fun (v : Sl) =>
nwb w1 [v.v] T.api_Nat fun b w2 =>
apd w2 T.api_Nat 1 24 out ⟨(some ⟨b, 0, none⟩), 1, 1⟩ fun s w3 =>
bnd (wi (i + 1)) fun n =>
C0 s n w3) (
J0 out w1)) Sl.nil 0 w) fun (out1 : Sl) w4 =>
R (out1.v) w4
def Dc.zigguratkeep_Nats : Dc := { N := 19, va := [], vb := [], ann := [(2, 0, [(3, .one .slice)]), (3, 3, [(3, .one .slice), (4, .one (.int .i64))])], ext := Xt }
theorem Eq.zigguratkeep_Nats (l : Sl) (R : Value → TW → Prop) (w : TW) : denF Pg Dc.zigguratkeep_Nats Go.Proofs.Try.f33 (Go.Proofs.Try.f33.body.getD .skip) [l.v] w R = Sh.zigguratkeep_Nats l R w := by kernel_rfl
theorem Ct.zigguratkeep_Nats {l : Sl} {w : TW} {X : Nat → Prop} {K : Tel (fl [.one .slice]) (TW → Prop)} (h : Sh.zigguratkeep_Nats l (Rt X [.one .slice] K w) w.here) : Ct Pg F.zigguratkeep_Nats [l.v] w X [.one .slice] K :=
  ct_of_den (D := Dc.zigguratkeep_Nats) (fn := Go.Proofs.Try.f33) Xt_ok follows_ok (by kernel_rfl) (by kernel_rfl) (by kernel_rfl) (Eq.mpr (Eq.zigguratkeep_Nats l _ _) h)

def Sh.zigguratkeep_Same (a : Sl) (b : Sl) (R : Value → TW → Prop) (w : TW) : Prop :=
cond (((a.n : Int) : Int) != (b.n : Int)) (
R (.bool false) w) (
Jn [] (fun J0 =>
Lp [.int .i64] (fun (i : Int) w1 C0 =>
cond (decide ((i : Int) < (a.n : Int))) (
ixa a i 1 fun a1 =>
ldc (.int .u64) w1.drew a1 fun (v : Int) =>
ixa b i 1 fun a2 =>
ldc (.int .u64) w1.drew a2 fun (v1 : Int) =>
cond ((v : Int) != v1) (
R (.bool false) w1.drew) (
bnd (wi (i + 1)) fun n =>
C0 n w1.drew)) (
J0 w1)) 0 w) fun  w2 =>
R (.bool true) w2)
def Dc.zigguratkeep_Same : Dc := { N := 26, va := [], vb := [], ann := [(2, 0, []), (3, 4, [(5, .one (.int .i64))])], ext := Xt }
theorem Eq.zigguratkeep_Same (a : Sl) (b : Sl) (R : Value → TW → Prop) (w : TW) : denF Pg Dc.zigguratkeep_Same Go.Proofs.Try.f46 (Go.Proofs.Try.f46.body.getD .skip) [a.v, b.v] w R = Sh.zigguratkeep_Same a b R w := by kernel_rfl
theorem Ct.zigguratkeep_Same {a : Sl} {b : Sl} {w : TW} {X : Nat → Prop} {K : Tel (fl [.one .bool]) (TW → Prop)} (h : Sh.zigguratkeep_Same a b (Rt X [.one .bool] K w) w.here) : Ct Pg F.zigguratkeep_Same [a.v, b.v] w X [.one .bool] K :=
  ct_of_den (D := Dc.zigguratkeep_Same) (fn := Go.Proofs.Try.f46) Xt_ok follows_ok (by kernel_rfl) (by kernel_rfl) (by kernel_rfl) (Eq.mpr (Eq.zigguratkeep_Same a b _ _) h)
end Go.Proofs.Ythhohfgpaihngaa.Zg
