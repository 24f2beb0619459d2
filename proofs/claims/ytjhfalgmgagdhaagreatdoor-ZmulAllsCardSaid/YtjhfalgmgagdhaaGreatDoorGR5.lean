/- A part of the proofs of this seat's laws: words, lemmas or contracts of its functions. -/
import Derived.Lib.LaidTab
import Derived.Lib.LaidIn
import Derived.MakeChecks
import Derived.LaidHandle
import Derived.Test.YtjhfalgmgagdhaaGreatDoorGQ
import Derived.Test.YtjhfalgmgagdhaaGreatDoorGMA
import Derived.KernelRfl
import Derived.JoinedOf
import Derived.SevenTiedAt
import Derived.Test.YtjhfalgmgagdhaaGreatDoorProg
set_option linter.unusedVariables false
set_option linter.unusedSimpArgs false
set_option linter.unnecessarySimpa false
section
namespace Go.Proofs.YtjhfalgmgagdhaaGreatDoor.Zg
open Go.RowKit
abbrev tabTy:TypeId:=T.t_64_uint8
set_option maxRecDepth 100000 in
theorem gl_of {W : World} {rest : List (String × DataW Unit)} (h : laidMet Pg (("math/bits.deBruijn64tab", Lib.tabData .u8 (DB.map fun n : Nat => (n : Int))) :: rest) W) : Gl (TW.of W) := by
 have hT:=Lib.tabIs_of_head (P:=Pg) (g:=0) (t:=tabTy) (e:=T.uint8) (n:=64) (by kernel_rfl) (by kernel_rfl) (by kernel_rfl) (by kernel_rfl) (by kernel_rfl) (by kernel_rfl) h
 refine ⟨fun h=>h,fun i hi=>?_⟩
 have:=hT.cell (g:=0) (by kernel_rfl) i (by simpa [DB] using hi)
 show W.cell? ⟨0,i,none⟩=_
 rw [this]
 congr 2
 simp only [List.getD_eq_getElem?_getD,List.getElem?_map]
 cases DB[i]?<;>rfl
noncomputable def tabWorld (os:Os):World:=
 let w0:=World.holding Pg os ⟨#[],#[],[]⟩
 { w0 with heap:=w0.heap.modify 0 fun
   | .cells _ t frozen=>.cells (DB.map fun n:Nat=>Value.int .u8 (n:Int)).toArray t frozen
   | o=>o }
set_option maxRecDepth 100000 in
theorem tabWorld_met (os : Os) (args : Array Value) : laidMet Pg [("math/bits.deBruijn64tab", Lib.tabData .u8 (DB.map fun n : Nat => (n : Int)))] ((tabWorld os).forCall (fun _ _ => 0) ⟨#[], args, []⟩).memory :=
 (_root_.Go.LaidIn.of_run [0] 8 (by kernel_rfl) (by kernel_rfl) (by kernel_rfl) (by kernel_rfl)).met
abbrev tabL : List (String × DataW Unit) := [("math/bits.deBruijn64tab", Lib.tabData .u8 (DB.map fun n : Nat => (n : Int)))]
theorem gl_ofH {W:World} (h:laidMetH Pg tabL W):Gl (TW.of W):=by
 rw [_root_.Go.MakeChecks.laidMetH_plain _ _ _ (by kernel_rfl)] at h
 exact gl_of h
theorem tabWorld_metH (os:Os) (args:Array Value):laidMetH Pg tabL ((tabWorld os).forCall (fun _ _=>0) ⟨#[],args,[]⟩).memory:=by
 rw [_root_.Go.MakeChecks.laidMetH_plain _ _ _ (by kernel_rfl)]
 exact tabWorld_met os args
end Go.Proofs.YtjhfalgmgagdhaaGreatDoor.Zg
end

section
set_option maxRecDepth 100000
namespace Go.Proofs.YtjhfalgmgagdhaaGreatDoor.Zg
def headCs:List Char:=([104,97,114,110,101,115,115,32,57,57,55,98,49,57,57,52,57,53,101,101,54,50,56,54,101,97,49,52,56,57,52,102,98,55,98,55,50,53,48,100,52,97,102,57,51,50,52,99,100,52,48,48,49,97,101,56,53,51,56,52,99,49,49,53,101,48,100,48,50,57,48,101,32,99,117,116,32,97,116,32,122,105,103,103,117,114,97,116,47,122,105,103,103,117,114,97,116,108,97,119,50,50,46,77,111,100,110,82,101,109,97,105,110,100,101,114,115,32,122,105,103,103,117,114,97,116,47,122,105,103,103,117,114,97,116,108,97,119,50,57,46,90,109,117,108,87,97,121,115,32,122,105,103,103,117,114,97,116,47,122,105,103,103,117,114,97,116,108,97,119,50,57,46,90,109,117,108,84,97,98,108,101,115,32,122,105,103,103,117,114,97,116,47,122,105,103,103,117,114,97,116,108,97,119,50,57,46,90,109,117,108,65,108,108,115]:List Nat).map Char.ofNat
theorem head_ord:Go.Proofs.Tryz.prog.initOrder.toList=headCs:=(congrArg String.toList (show Go.Proofs.Tryz.prog.initOrder=String.ofList headCs by kernel_rfl)).trans String.toList_ofList
def headWs:List (List Char):=([[97,116],[122,105,103,103,117,114,97,116,47,122,105,103,103,117,114,97,116,108,97,119,50,50,46,77,111,100,110,82,101,109,97,105,110,100,101,114,115],[122,105,103,103,117,114,97,116,47,122,105,103,103,117,114,97,116,108,97,119,50,57,46,90,109,117,108,87,97,121,115],[122,105,103,103,117,114,97,116,47,122,105,103,103,117,114,97,116,108,97,119,50,57,46,90,109,117,108,84,97,98,108,101,115],[122,105,103,103,117,114,97,116,47,122,105,103,103,117,114,97,116,108,97,119,50,57,46,90,109,117,108,65,108,108,115]]:List (List Nat)).map (List.map Char.ofNat)
theorem head_ws : behindMainWord (wordsSigns Go.Proofs.Tryz.prog.initOrder.toList) = "cut".toList :: headWs := by rw [head_ord]; kernel_rfl
theorem make_of (P : Program) (h : behindMainWord (wordsSigns P.initOrder.toList) = "cut".toList :: headWs) : P.make = some .cut := by
 unfold Program.make
 rw [h]
 kernel_rfl
theorem lifts_of (P : Program) (h : behindMainWord (wordsSigns P.initOrder.toList) = "cut".toList :: headWs) : P.headLifts = [] := by
 unfold Program.headLifts
 rw [h]
 kernel_rfl
theorem finals_of (P : Program) (h : behindMainWord (wordsSigns P.initOrder.toList) = "cut".toList :: headWs) : P.liftsFinal = false := by
 unfold Program.liftsFinal
 rw [h,lifts_of P h]
 kernel_rfl
theorem may_of (P : Program) (h : behindMainWord (wordsSigns P.initOrder.toList) = "cut".toList :: headWs) (h1 : P.laysLater = false) (h2 : P.bearsReflect = false) (h3 : P.doorFits [] = true) : P.mayEnter = true := by
 unfold Program.mayEnter
 have hs : stripLifts liftWords ("cut".toList :: headWs) = ([], "cut".toList :: headWs) := by kernel_rfl
 rw [h]
 simp only [hs,h1,h2,h3]
 have e : (("cut".toList :: headWs).head? == some "cut".toList) = true := by kernel_rfl
 simp [e]
theorem rf_mayEnter:Go.Proofs.Tryz.prog.mayEnter=true:=may_of _ head_ws (by kernel_rfl) (by kernel_rfl) (by kernel_rfl)
theorem rf_lifts:Go.Proofs.Tryz.prog.liftsFinal=false:=finals_of _ head_ws
theorem rf_make:Go.Proofs.Tryz.prog.make=some .cut:=make_of _ head_ws
theorem head_all : wordsSigns Go.Proofs.Tryz.prog.initOrder.toList = "harness".toList :: "997b199495ee6286ea14894fb7b7250d4af9324cd4001ae85384c115e0d0290e".toList :: "cut".toList :: headWs := by rw [head_ord]; kernel_rfl
theorem main_of (P : Program) (h : wordsSigns P.initOrder.toList = "harness".toList :: "997b199495ee6286ea14894fb7b7250d4af9324cd4001ae85384c115e0d0290e".toList :: "cut".toList :: headWs) : P.mainIs = some (true, "997b199495ee6286ea14894fb7b7250d4af9324cd4001ae85384c115e0d0290e".toList) := by
 unfold Program.mainIs
 rw [h]
 kernel_rfl
theorem rf_main : Go.Proofs.Tryz.prog.mainIs = some (true, "997b199495ee6286ea14894fb7b7250d4af9324cd4001ae85384c115e0d0290e".toList) := main_of _ head_all
theorem rf_looks:Go.Proofs.Tryz.prog.looks []=false:=by kernel_rfl
theorem rf_laid:laidOutB Go.Proofs.Tryz.prog=true:=by kernel_rfl
theorem rf_rowed:mapsRowed Go.Proofs.Tryz.prog=true:=by kernel_rfl
theorem rf_heard:Go.Proofs.Tryz.prog.stopsHeard=true:=by kernel_rfl
theorem and_i {a b:Bool} (ha:a=true) (hb:b=true):(a&&b)=true:=by rw [ha,hb];rfl
theorem joined_of {P:Program} {f:FuncId} {fn:Func} {s:ChangeSpec} {c:OpenClaim} (k0:(c.wf (OpenSpec.ofChange s))=true) (k1:(laidOutB P)=true) (k2:(mapsRowed P)=true) (k3:(fn.params.all (P.readableRec ·))=true) (k4:(namedTie P c.named s.vars)=true) (k5:((c.stops == []))=true) (k6:((P.stops == []))=true) (k7:((c.knobs == []))=true) (k8:((P.stopKnobs == []))=true) (k9:((c.inPlace == P.inPlace f))=true) (k10:((c.unfollowed == P.unfollowed f))=true) (k11:((c.recurses == P.recurses f))=true) (k12:((c.named == P.varsNamed f))=true) (k13:((c.maps == (fn.params.toList++s.plain.varTypes P).any (P.mapsRec ·)))=true) (k14:((c.ifaces == (fn.params.toList++s.plain.varTypes P).any (P.ifacesRec ·)))=true) (k15:((c.mapsOut == P.mapsAmong fn.resultTypes.toList))=true) (k16:((c.loops == (fn.params.toList++s.plain.varTypes P).any (P.loopsFrom ·)))=true) (k17:((c.wideKeys == (fn.params.toList++s.plain.varTypes P++fn.resultTypes.toList).any (P.wideKeysFrom ·)))=true) (k18:(s.vars.all (P.varReadable ·))=true) (k19:(fn.resultTypes.all (fun t=>P.readableRec t&&decide (t<P.types.size)))=true) (k20:((c.ifacesOut == fn.resultTypes.toList.any (P.ifacesRec ·)))=true) (k21:((c.loopsOut == fn.resultTypes.toList.any (P.loopsFrom ·)))=true) (k22:((c.plainKeys == P.plainKeys))=true) (k23:(c.shortTexts.isNone)=true) (k24:(P.stopsHeard)=true) (k25:(P.mayEnter)=true) (k26:((c.lifted == P.liftsFinal))=true) (k27:((P.make == some c.make))=true) (k28:((c.kinds == (if c.domain.isEmpty then [] else fn.params.toList.map fun t=>match P.underlying t with|some (.int k)=>some k|_=>none)))=true) (k29:((c.pinned == c.pinnedBy))=true) (k30:((c.veiled == (fn.params.toList++s.plain.varTypes P++fn.resultTypes.toList).any (P.veiledRec ·)))=true) (k31:(c.veiledFits P fn.params.toList (fn.params.toList++s.plain.varTypes P++fn.resultTypes.toList))=true):joinedFacts P f fn s c=true:=by
 unfold joinedFacts
 exact and_i (and_i (and_i (and_i (and_i (and_i (and_i (and_i (and_i (and_i (and_i (and_i (and_i (and_i (and_i (and_i (and_i (and_i (and_i (and_i (and_i (and_i (and_i (and_i (and_i (and_i (and_i (and_i (and_i (and_i (and_i (k0) k1) k2) k3) k4) k5) k6) k7) k8) k9) k10) k11) k12) k13) k14) k15) k16) k17) k18) k19) k20) k21) k22) k23) k24) k25) k26) k27) k28) k29) k30) k31
end Go.Proofs.YtjhfalgmgagdhaaGreatDoor.Zg
end
