/-The closed facts of the row of StoreManifests,one by one. -/
import Derived.Test.YtcmldpiicnobnaaGreatDoorLw
import Derived.Stop.Joined
set_option linter.all false
set_option maxRecDepth 100000
open Go.Proofs.Tryz
namespace Go.Proofs.YtcmldpiicnobnaaGreatDoor
open Go.ChangeShapes Go.WideShapes Go.ChangeAt Go.RowKit Go.Kw
section
theorem ar{a b:Bool}(h:a=true)(k:b=true):(a&&b)=true:=by rw[h,k];rfl
theorem lG:(λ(P:Program) (f:FuncId) (fn:Func) (s:ChangeSpec) (c:OpenClaim)=>(c.wf (OpenSpec.ofChange s))) prog 3 Tryz.f3 Rows.storeManifestsSpec Rows.storeManifestsRow=true:=by kernel_rfl
theorem lH:(λ(P:Program) (f:FuncId) (fn:Func) (s:ChangeSpec) (c:OpenClaim)=>(laidOutB P)) prog 3 Tryz.f3 Rows.storeManifestsSpec Rows.storeManifestsRow=true:=by kernel_rfl
theorem lI:(λ(P:Program) (f:FuncId) (fn:Func) (s:ChangeSpec) (c:OpenClaim)=>(mapsRowed P)) prog 3 Tryz.f3 Rows.storeManifestsSpec Rows.storeManifestsRow=true:=by kernel_rfl
theorem lJ:(λ(P:Program) (f:FuncId) (fn:Func) (s:ChangeSpec) (c:OpenClaim)=>(fn.params.all (P.readableRec ·))) prog 3 Tryz.f3 Rows.storeManifestsSpec Rows.storeManifestsRow=true:=by kernel_rfl
theorem lK:(λ(P:Program) (f:FuncId) (fn:Func) (s:ChangeSpec) (c:OpenClaim)=>(namedTie P c.named s.vars)) prog 3 Tryz.f3 Rows.storeManifestsSpec Rows.storeManifestsRow=true:=by kernel_rfl
theorem lL:(λ(P:Program) (f:FuncId) (fn:Func) (s:ChangeSpec) (c:OpenClaim)=>((c.stops==[]))) prog 3 Tryz.f3 Rows.storeManifestsSpec Rows.storeManifestsRow=true:=by kernel_rfl
theorem lM:(λ(P:Program) (f:FuncId) (fn:Func) (s:ChangeSpec) (c:OpenClaim)=>((P.stops==[]))) prog 3 Tryz.f3 Rows.storeManifestsSpec Rows.storeManifestsRow=true:=by kernel_rfl
theorem lN:(λ(P:Program) (f:FuncId) (fn:Func) (s:ChangeSpec) (c:OpenClaim)=>((c.knobs==[]))) prog 3 Tryz.f3 Rows.storeManifestsSpec Rows.storeManifestsRow=true:=by kernel_rfl
theorem lO:(λ(P:Program) (f:FuncId) (fn:Func) (s:ChangeSpec) (c:OpenClaim)=>((P.stopKnobs==[]))) prog 3 Tryz.f3 Rows.storeManifestsSpec Rows.storeManifestsRow=true:=by kernel_rfl
theorem lP:(λ(P:Program) (f:FuncId) (fn:Func) (s:ChangeSpec) (c:OpenClaim)=>((c.inPlace==P.inPlace f))) prog 3 Tryz.f3 Rows.storeManifestsSpec Rows.storeManifestsRow=true:=by kernel_rfl
theorem kB:(λ(P:Program) (f:FuncId) (fn:Func) (s:ChangeSpec) (c:OpenClaim)=>((c.unfollowed==P.unfollowed f))) prog 3 Tryz.f3 Rows.storeManifestsSpec Rows.storeManifestsRow=true:=by kernel_rfl
theorem kC:(λ(P:Program) (f:FuncId) (fn:Func) (s:ChangeSpec) (c:OpenClaim)=>((c.recurses==P.recurses f))) prog 3 Tryz.f3 Rows.storeManifestsSpec Rows.storeManifestsRow=true:=by kernel_rfl
theorem kD:(λ(P:Program) (f:FuncId) (fn:Func) (s:ChangeSpec) (c:OpenClaim)=>((c.named==P.varsNamed f))) prog 3 Tryz.f3 Rows.storeManifestsSpec Rows.storeManifestsRow=true:=by kernel_rfl
theorem kE:(λ(P:Program) (f:FuncId) (fn:Func) (s:ChangeSpec) (c:OpenClaim)=>((c.maps==(fn.params.toList++s.plain.varTypes P).any (P.mapsRec ·)))) prog 3 Tryz.f3 Rows.storeManifestsSpec Rows.storeManifestsRow=true:=by kernel_rfl
theorem kF:(λ(P:Program) (f:FuncId) (fn:Func) (s:ChangeSpec) (c:OpenClaim)=>((c.ifaces==(fn.params.toList++s.plain.varTypes P).any (P.ifacesRec ·)))) prog 3 Tryz.f3 Rows.storeManifestsSpec Rows.storeManifestsRow=true:=by kernel_rfl
theorem kG:(λ(P:Program) (f:FuncId) (fn:Func) (s:ChangeSpec) (c:OpenClaim)=>((c.mapsOut==P.mapsAmong fn.resultTypes.toList))) prog 3 Tryz.f3 Rows.storeManifestsSpec Rows.storeManifestsRow=true:=by kernel_rfl
theorem kH:(λ(P:Program) (f:FuncId) (fn:Func) (s:ChangeSpec) (c:OpenClaim)=>((c.loops==(fn.params.toList++s.plain.varTypes P).any (P.loopsFrom ·)))) prog 3 Tryz.f3 Rows.storeManifestsSpec Rows.storeManifestsRow=true:=by kernel_rfl
theorem kI:(λ(P:Program) (f:FuncId) (fn:Func) (s:ChangeSpec) (c:OpenClaim)=>((c.wideKeys==(fn.params.toList++s.plain.varTypes P++fn.resultTypes.toList).any (P.wideKeysFrom ·)))) prog 3 Tryz.f3 Rows.storeManifestsSpec Rows.storeManifestsRow=true:=by kernel_rfl
theorem kJ:(λ(P:Program) (f:FuncId) (fn:Func) (s:ChangeSpec) (c:OpenClaim)=>(s.vars.all (P.varReadable ·))) prog 3 Tryz.f3 Rows.storeManifestsSpec Rows.storeManifestsRow=true:=by kernel_rfl
theorem kK:(λ(P:Program) (f:FuncId) (fn:Func) (s:ChangeSpec) (c:OpenClaim)=>(fn.resultTypes.all (λ t=>P.readableRec t&&decide (t<P.types.size)))) prog 3 Tryz.f3 Rows.storeManifestsSpec Rows.storeManifestsRow=true:=by kernel_rfl
theorem kL:(λ(P:Program) (f:FuncId) (fn:Func) (s:ChangeSpec) (c:OpenClaim)=>((c.ifacesOut==fn.resultTypes.toList.any (P.ifacesRec ·)))) prog 3 Tryz.f3 Rows.storeManifestsSpec Rows.storeManifestsRow=true:=by kernel_rfl
theorem kM:(λ(P:Program) (f:FuncId) (fn:Func) (s:ChangeSpec) (c:OpenClaim)=>((c.loopsOut==fn.resultTypes.toList.any (P.loopsFrom ·)))) prog 3 Tryz.f3 Rows.storeManifestsSpec Rows.storeManifestsRow=true:=by kernel_rfl
theorem kN:(λ(P:Program) (f:FuncId) (fn:Func) (s:ChangeSpec) (c:OpenClaim)=>((c.plainKeys==P.plainKeys))) prog 3 Tryz.f3 Rows.storeManifestsSpec Rows.storeManifestsRow=true:=by kernel_rfl
theorem kO:(λ(P:Program) (f:FuncId) (fn:Func) (s:ChangeSpec) (c:OpenClaim)=>(c.shortTexts.isNone)) prog 3 Tryz.f3 Rows.storeManifestsSpec Rows.storeManifestsRow=true:=by kernel_rfl
theorem kP:(λ(P:Program) (f:FuncId) (fn:Func) (s:ChangeSpec) (c:OpenClaim)=>(P.stopsHeard)) prog 3 Tryz.f3 Rows.storeManifestsSpec Rows.storeManifestsRow=true:=by kernel_rfl
theorem kQ:(λ(P:Program) (f:FuncId) (fn:Func) (s:ChangeSpec) (c:OpenClaim)=>(P.mayEnter)) prog 3 Tryz.f3 Rows.storeManifestsSpec Rows.storeManifestsRow=true:=by kernel_rfl
theorem kR:(λ(P:Program) (f:FuncId) (fn:Func) (s:ChangeSpec) (c:OpenClaim)=>((c.lifted==P.liftsFinal))) prog 3 Tryz.f3 Rows.storeManifestsSpec Rows.storeManifestsRow=true:=by kernel_rfl
theorem kS:(λ(P:Program) (f:FuncId) (fn:Func) (s:ChangeSpec) (c:OpenClaim)=>((P.make==some c.make))) prog 3 Tryz.f3 Rows.storeManifestsSpec Rows.storeManifestsRow=true:=by kernel_rfl
theorem kT:(λ(P:Program) (f:FuncId) (fn:Func) (s:ChangeSpec) (c:OpenClaim)=>((c.kinds==(if c.domain.isEmpty then[]else fn.params.toList.map λ t=>match P.underlying t with|some (.int k)=>some k|_=>none)))) prog 3 Tryz.f3 Rows.storeManifestsSpec Rows.storeManifestsRow=true:=by kernel_rfl
theorem kU:(λ(P:Program) (f:FuncId) (fn:Func) (s:ChangeSpec) (c:OpenClaim)=>((c.pinned==c.pinnedBy))) prog 3 Tryz.f3 Rows.storeManifestsSpec Rows.storeManifestsRow=true:=by kernel_rfl
theorem kV:(λ(P:Program) (f:FuncId) (fn:Func) (s:ChangeSpec) (c:OpenClaim)=>((c.veiled==(fn.params.toList++s.plain.varTypes P++fn.resultTypes.toList).any (P.veiledRec ·)))) prog 3 Tryz.f3 Rows.storeManifestsSpec Rows.storeManifestsRow=true:=by kernel_rfl
theorem kW:(λ(P:Program) (f:FuncId) (fn:Func) (s:ChangeSpec) (c:OpenClaim)=>(c.veiledFits P fn.params.toList (fn.params.toList++s.plain.varTypes P++fn.resultTypes.toList))) prog 3 Tryz.f3 Rows.storeManifestsSpec Rows.storeManifestsRow=true:=by kernel_rfl
theorem iT:joinedFacts prog 3 Tryz.f3 Rows.storeManifestsSpec Rows.storeManifestsRow=true:=(ar (ar (ar (ar (ar (ar (ar (ar (ar (ar (ar (ar (ar (ar (ar (ar (ar (ar (ar (ar (ar (ar (ar (ar (ar (ar (ar (ar (ar (ar (ar lG lH) lI) lJ) lK) lL) lM) lN) lO) lP) kB) kC) kD) kE) kF) kG) kH) kI) kJ) kK) kL) kM) kN) kO) kP) kQ) kR) kS) kT) kU) kV) kW)
end
