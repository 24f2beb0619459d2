/- A part of the proofs of this seat's laws. -/
import Derived.Test.YtpbimnlggalnfaaGreatDoorGNE
set_option linter.unusedVariables false
set_option linter.unusedSimpArgs false
set_option linter.unnecessarySimpa false
namespace Go.Proofs.YtpbimnlggalnfaaGreatDoor.Zg
open Go.RowKit
theorem acz{D:Nat→List Nat}{w:TW}{a b:Sl}{zs:List Int}(ha:Rq D w a zs)(hb:Rq D w b zs)(hl:zs.length≤1048576){K:Bool→TW→Prop}(hK:∀w',Ext aa w w'→K true w'):cl Pg F.cF [a.v,b.v] w [.one .bool] K:=by
 refine c1 (zN ha hb om) ?_;rintro r w' e rfl;exact hK w' e
end Go.Proofs.YtpbimnlggalnfaaGreatDoor.Zg
