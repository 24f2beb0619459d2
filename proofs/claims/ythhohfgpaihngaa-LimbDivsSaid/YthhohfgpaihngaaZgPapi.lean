/- What each function of Go's package 'api' does, step by step (its reading), and that its contract follows from that. Written by genseat.py. -/
import Derived.Test.YthhohfgpaihngaaZgX
set_option linter.unusedVariables false
set_option linter.unusedSimpArgs false
set_option linter.unnecessarySimpa false
set_option maxRecDepth 100000
namespace Go.Proofs.Ythhohfgpaihngaa.Zg
def Sh.api_Nat_Len (n : Sl) (R : Value → TW → Prop) (w : TW) : Prop :=
Jn [.int .i64] (fun J0 =>
Lp [.int .i64] (fun (k : Int) w1 C0 =>
Jn [.bool] (fun J1 =>
cond (decide ((k : Int) > 0)) (
bnd (wi (k - 1)) fun n1 =>
ixa n n1 1 fun a =>
ldc (.int .u64) w1 a fun (v : Int) =>
J1 ((v : Int) == 0) w1) (
J1 false w1)) fun (x : Bool) w2 =>
cond x (
bnd (wi (k - 1)) fun n2 =>
C0 n2 w2) (
J0 k w2)) (n.n : Int) w) fun (k1 : Int) w3 =>
R (.int .i64 k1) w3
def Dc.api_Nat_Len : Dc := { N := 19, va := [], vb := [], ann := [(2, 0, [(3, .one (.int .i64))]), (3, 2, [(3, .one (.int .i64))]), (0, 2, [(15, .one .bool)])], ext := Xt }
theorem Eq.api_Nat_Len (n : Sl) (R : Value → TW → Prop) (w : TW) : denF Pg Dc.api_Nat_Len Go.Proofs.Try.f69 (Go.Proofs.Try.f69.body.getD .skip) [n.v] w R = Sh.api_Nat_Len n R w := by kernel_rfl
theorem Ct.api_Nat_Len {n : Sl} {w : TW} {X : Nat → Prop} {K : Tel (fl [.one (.int .i64)]) (TW → Prop)} (h : Sh.api_Nat_Len n (Rt X [.one (.int .i64)] K w) w.here) : Ct Pg F.api_Nat_Len [n.v] w X [.one (.int .i64)] K :=
  ct_of_den (D := Dc.api_Nat_Len) (fn := Go.Proofs.Try.f69) Xt_ok follows_ok (by kernel_rfl) (by kernel_rfl) (by kernel_rfl) (Eq.mpr (Eq.api_Nat_Len n _ _) h)
end Go.Proofs.Ythhohfgpaihngaa.Zg
