/- A part of the proofs of this seat's laws. -/
import Derived.Lib.LaidTab
import Derived.Lib.LaidIn
import Derived.MakeChecks
import Derived.LaidHandle
import Derived.Test.YtpbimnlggalnfaaGreatDoorGQ
import Derived.Test.YtpbimnlggalnfaaGreatDoorGMA
import Derived.KernelRfl
import Derived.JoinedOf
import Derived.SevenTiedAt
import Derived.Test.YtpbimnlggalnfaaGreatDoorProg
set_option linter.unusedVariables false
set_option linter.unusedSimpArgs false
set_option linter.unnecessarySimpa false
namespace Go.Proofs.YtpbimnlggalnfaaGreatDoor.Zg
open Go.RowKit
section
variable {W:World}
abbrev adW:TypeId:=T.yE
set_option maxRecDepth 100000 in
theorem ad9{rest:List (String × DataW Unit)}(h : laidMet Pg (("math/bits.deBruijn64tab", Lib.tabData .u8 (DB.map λn : Nat => (n : Int))) :: rest) W) : Gl (TW.of W) := by
 have hT:=Lib.tabIs_of_head (P:=Pg) (g:=0) (t:=adW) (e:=T.ael) (n:=64) krf krf krf krf krf krf h;refine⟨λh=>h,λi hi=>?_⟩;have:=hT.cell (g:=0) krf i (by simpa [DB] using hi);show W.cell? ⟨0,i,none⟩=_;rw [this];congr 2;simp only [List.getD_eq_getElem?_getD,List.getElem?_map];cases DB[i]?<;>rfl
noncomputable def uQ(os:Os):World:=
 let w0:=World.holding Pg os ⟨#[],#[],[]⟩
 { w0 with heap:=w0.heap.modify 0 fun
   | .cells _ t frozen=>.cells (DB.map λn:Nat=>Value.int .u8 (n:Int)).toArray t frozen
   | o=>o }
set_option maxRecDepth 100000 in
theorem uP(os : Os)(args : Array Value) : laidMet Pg [("math/bits.deBruijn64tab", Lib.tabData .u8 (DB.map λn : Nat => (n : Int)))] ((uQ os).forCall (λ_ _ => 0) ⟨#[], args, []⟩).memory :=
 (_root_.Go.LaidIn.of_run [0] 8 krf krf krf krf).met
abbrev ac0 : List (String × DataW Unit) := [("math/bits.deBruijn64tab", Lib.tabData .u8 (DB.map λn : Nat => (n : Int)))]
theorem aeO(h:laidMetH Pg ac0 W):Gl (TW.of W):=by
 rw [_root_.Go.MakeChecks.laidMetH_plain _ _ _ krf] at h;exact ad9 h
theorem acV(os:Os)(args:Array Value):laidMetH Pg ac0 ((uQ os).forCall (λ_ _=>0) ⟨#[],args,[]⟩).memory:=by
 rw [_root_.Go.MakeChecks.laidMetH_plain _ _ _ krf];exact uP os args
end
section
set_option maxRecDepth 100000
def aaa:List Char:=([104,97,114,110,101,115,115,32,97,55,54,101,55,55,98,55,99,100,56,98,102,100,56,49,97,48,57,53,101,102,53,50,101,99,97,49,52,56,57,98,57,48,98,98,102,57,48,52,98,102,99,48,53,48,52,53,48,100,101,101,51,99,52,101,49,49,98,101,98,102,102,100,32,99,117,116,32,97,116,32,122,105,103,103,117,114,97,116,47,122,105,103,103,117,114,97,116,108,97,119,51,48,46,90,100,105,118,67,111,110,116,101,110,116,115,32,122,105,103,103,117,114,97,116,47,122,105,103,103,117,114,97,116,108,97,119,51,48,46,90,100,105,118,73,110,116,101,114,112,111,108,97,110,116,115,32,122,105,103,103,117,114,97,116,47,122,105,103,103,117,114,97,116,108,97,119,51,48,46,90,100,105,118,80,115,101,117,100,111,115,32,122,105,103,103,117,114,97,116,47,122,105,103,103,117,114,97,116,108,97,119,51,48,46,90,100,105,118,80,115,101,117,100,111,66,97,99,107,32,122,105,103,103,117,114,97,116,47,122,105,103,103,117,114,97,116,108,97,119,51,48,46,90,100,105,118,69,120,97,99,116,115,32,122,105,103,103,117,114,97,116,47,122,105,103,103,117,114,97,116,108,97,119,51,48,46,90,100,105,118,67,111,109,109,111,110,115,32,122,105,103,103,117,114,97,116,47,122,105,103,103,117,114,97,116,108,97,119,51,48,46,90,100,105,118,68,105,118,105,100,101,115]:List Nat).map Char.ofNat
theorem vI:Go.Proofs.Tryz.prog.initOrder.toList=aaa:=(congrArg String.toList (show Go.Proofs.Tryz.prog.initOrder=String.ofList aaa by kernel_rfl)).trans String.toList_ofList
def kM:List (List Char):=([[97,116],[122,105,103,103,117,114,97,116,47,122,105,103,103,117,114,97,116,108,97,119,51,48,46,90,100,105,118,67,111,110,116,101,110,116,115],[122,105,103,103,117,114,97,116,47,122,105,103,103,117,114,97,116,108,97,119,51,48,46,90,100,105,118,73,110,116,101,114,112,111,108,97,110,116,115],[122,105,103,103,117,114,97,116,47,122,105,103,103,117,114,97,116,108,97,119,51,48,46,90,100,105,118,80,115,101,117,100,111,115],[122,105,103,103,117,114,97,116,47,122,105,103,103,117,114,97,116,108,97,119,51,48,46,90,100,105,118,80,115,101,117,100,111,66,97,99,107],[122,105,103,103,117,114,97,116,47,122,105,103,103,117,114,97,116,108,97,119,51,48,46,90,100,105,118,69,120,97,99,116,115],[122,105,103,103,117,114,97,116,47,122,105,103,103,117,114,97,116,108,97,119,51,48,46,90,100,105,118,67,111,109,109,111,110,115],[122,105,103,103,117,114,97,116,47,122,105,103,103,117,114,97,116,108,97,119,51,48,46,90,100,105,118,68,105,118,105,100,101,115]]:List (List Nat)).map (List.map Char.ofNat)
theorem tm : behindMainWord (wordsSigns Go.Proofs.Tryz.prog.initOrder.toList) = "cut".toList :: kM := by rw [vI]; kernel_rfl
theorem acr(P : Program)(h : behindMainWord (wordsSigns P.initOrder.toList) = "cut".toList :: kM) : P.make = some .cut := by
 unfold Program.make;rw [h];kernel_rfl
theorem aa6(P : Program)(h : behindMainWord (wordsSigns P.initOrder.toList) = "cut".toList :: kM) : P.headLifts = [] := by
 unfold Program.headLifts;rw [h];kernel_rfl
theorem aae(P : Program)(h : behindMainWord (wordsSigns P.initOrder.toList) = "cut".toList :: kM) : P.liftsFinal = false := by
 unfold Program.liftsFinal;rw [h,aa6 P h];kernel_rfl
theorem adm(P : Program)(h : behindMainWord (wordsSigns P.initOrder.toList) = "cut".toList :: kM)(h1 : P.laysLater = false)(h2 : P.bearsReflect = false)(h3 : P.doorFits [] = true) : P.mayEnter = true := by
 unfold Program.mayEnter;have hs : stripLifts liftWords ("cut".toList :: kM) = ([], "cut".toList :: kM) := by kernel_rfl
 rw [h];simp only [hs,h1,h2,h3];have e : (("cut".toList :: kM).head? == some "cut".toList) = true := by kernel_rfl
 simp [e]
theorem adS:Go.Proofs.Tryz.prog.mayEnter=true:=adm _ tm krf krf krf
theorem aer:Go.Proofs.Tryz.prog.liftsFinal=false:=aae _ tm
theorem aeH:Go.Proofs.Tryz.prog.make=some .cut:=acr _ tm
theorem abh : wordsSigns Go.Proofs.Tryz.prog.initOrder.toList = "harness".toList :: "a76e77b7cd8bfd81a095ef52eca1489b90bbf904bfc050450dee3c4e11bebffd".toList :: "cut".toList :: kM := by rw [vI]; kernel_rfl
theorem acs(P : Program)(h : wordsSigns P.initOrder.toList = "harness".toList :: "a76e77b7cd8bfd81a095ef52eca1489b90bbf904bfc050450dee3c4e11bebffd".toList :: "cut".toList :: kM) : P.mainIs = some (true, "a76e77b7cd8bfd81a095ef52eca1489b90bbf904bfc050450dee3c4e11bebffd".toList) := by
 unfold Program.mainIs;rw [h];kernel_rfl
theorem aeI : Go.Proofs.Tryz.prog.mainIs = some (true, "a76e77b7cd8bfd81a095ef52eca1489b90bbf904bfc050450dee3c4e11bebffd".toList) := acs _ abh
theorem aeq:Go.Proofs.Tryz.prog.looks []=false:=krf
theorem aeJ:laidOutB Go.Proofs.Tryz.prog=true:=krf
theorem aep:mapsRowed Go.Proofs.Tryz.prog=true:=krf
theorem aes:Go.Proofs.Tryz.prog.stopsHeard=true:=krf
theorem di{a b:Bool}(ha:a=true)(hb:b=true):(a&&b)=true:=by rw [ha,hb];rfl
theorem aen{P:Program}{f:FuncId}{fn:Func}{s:ChangeSpec}{c:OpenClaim}(k0:(c.wf (OpenSpec.ofChange s))=true)(k1:(laidOutB P)=true)(k2:(mapsRowed P)=true)(k3:(fn.params.all (P.readableRec ·))=true)(k4:(namedTie P c.named s.vars)=true)(k5:((c.stops == []))=true)(k6:((P.stops == []))=true)(k7:((c.knobs == []))=true)(k8:((P.stopKnobs == []))=true)(k9:((c.inPlace == P.inPlace f))=true)(k10:((c.unfollowed == P.unfollowed f))=true)(k11:((c.recurses == P.recurses f))=true)(k12:((c.named == P.varsNamed f))=true)(k13:((c.maps == (fn.params.toList++s.plain.varTypes P).any (P.mapsRec ·)))=true)(k14:((c.ifaces == (fn.params.toList++s.plain.varTypes P).any (P.ifacesRec ·)))=true)(k15:((c.mapsOut == P.mapsAmong fn.resultTypes.toList))=true)(k16:((c.loops == (fn.params.toList++s.plain.varTypes P).any (P.loopsFrom ·)))=true)(k17:((c.wideKeys == (fn.params.toList++s.plain.varTypes P++fn.resultTypes.toList).any (P.wideKeysFrom ·)))=true)(k18:(s.vars.all (P.varReadable ·))=true)(k19:(fn.resultTypes.all (λt=>P.readableRec t&&decide (t<P.types.size)))=true)(k20:((c.ifacesOut == fn.resultTypes.toList.any (P.ifacesRec ·)))=true)(k21:((c.loopsOut == fn.resultTypes.toList.any (P.loopsFrom ·)))=true)(k22:((c.plainKeys == P.plainKeys))=true)(k23:(c.shortTexts.isNone)=true)(k24:(P.stopsHeard)=true)(k25:(P.mayEnter)=true)(k26:((c.lifted == P.liftsFinal))=true)(k27:((P.make == some c.make))=true)(k28:((c.kinds == (if c.domain.isEmpty then [] else fn.params.toList.map λt=>match P.underlying t with|some (.int k)=>some k|_=>none)))=true)(k29:((c.pinned == c.pinnedBy))=true)(k30:((c.veiled == (fn.params.toList++s.plain.varTypes P++fn.resultTypes.toList).any (P.veiledRec ·)))=true)(k31:(c.veiledFits P fn.params.toList (fn.params.toList++s.plain.varTypes P++fn.resultTypes.toList))=true):joinedFacts P f fn s c=true:=by
 unfold joinedFacts;exact di (di (di (di (di (di (di (di (di (di (di (di (di (di (di (di (di (di (di (di (di (di (di (di (di (di (di (di (di (di (di (k0) k1) k2) k3) k4) k5) k6) k7) k8) k9) k10) k11) k12) k13) k14) k15) k16) k17) k18) k19) k20) k21) k22) k23) k24) k25) k26) k27) k28) k29) k30) k31
end
end Go.Proofs.YtpbimnlggalnfaaGreatDoor.Zg
