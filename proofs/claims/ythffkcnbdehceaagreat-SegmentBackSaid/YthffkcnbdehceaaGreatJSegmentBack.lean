/-The closed facts of the row of SegmentBack,one by one. -/
import Derived.Test.YthffkcnbdehceaaGreatLw
open Go.Proofs.Tryz
set_option linter.unusedVariables false
set_option linter.unusedSimpArgs false
set_option linter.unusedSectionVars false
namespace Go.Proofs.YthffkcnbdehceaaGreat
open Go.ChangeShapes Go.WideShapes Go.ChangeAt Go.RowKit Go.Kw
set_option maxRecDepth 100000
section
theorem ax {a b:Bool} (h:a=true) (k:b=true):(a&&b)=true:=by rw [h,k];rfl
theorem sM:(λ (P:Program) (f:FuncId) (fn:Func) (s:ChangeSpec) (c:OpenClaim)=>(c.wf (OpenSpec.ofChange s))) prog 7 Tryz.f7 Rows.segmentBackSpec Rows.segmentBackRow=true:=by kernel_rfl
theorem sO:(λ (P:Program) (f:FuncId) (fn:Func) (s:ChangeSpec) (c:OpenClaim)=>(laidOutB P)) prog 7 Tryz.f7 Rows.segmentBackSpec Rows.segmentBackRow=true:=by kernel_rfl
theorem sP:(λ (P:Program) (f:FuncId) (fn:Func) (s:ChangeSpec) (c:OpenClaim)=>(mapsRowed P)) prog 7 Tryz.f7 Rows.segmentBackSpec Rows.segmentBackRow=true:=by kernel_rfl
theorem sQ:(λ (P:Program) (f:FuncId) (fn:Func) (s:ChangeSpec) (c:OpenClaim)=>(fn.params.all (P.readableRec ·))) prog 7 Tryz.f7 Rows.segmentBackSpec Rows.segmentBackRow=true:=by kernel_rfl
theorem sR:(λ (P:Program) (f:FuncId) (fn:Func) (s:ChangeSpec) (c:OpenClaim)=>(namedTie P c.named s.vars)) prog 7 Tryz.f7 Rows.segmentBackSpec Rows.segmentBackRow=true:=by kernel_rfl
theorem sS:(λ (P:Program) (f:FuncId) (fn:Func) (s:ChangeSpec) (c:OpenClaim)=>((c.stops==[]))) prog 7 Tryz.f7 Rows.segmentBackSpec Rows.segmentBackRow=true:=by kernel_rfl
theorem sU:(λ (P:Program) (f:FuncId) (fn:Func) (s:ChangeSpec) (c:OpenClaim)=>((P.stops==[]))) prog 7 Tryz.f7 Rows.segmentBackSpec Rows.segmentBackRow=true:=by kernel_rfl
theorem sV:(λ (P:Program) (f:FuncId) (fn:Func) (s:ChangeSpec) (c:OpenClaim)=>((c.knobs==[]))) prog 7 Tryz.f7 Rows.segmentBackSpec Rows.segmentBackRow=true:=by kernel_rfl
theorem sW:(λ (P:Program) (f:FuncId) (fn:Func) (s:ChangeSpec) (c:OpenClaim)=>((P.stopKnobs==[]))) prog 7 Tryz.f7 Rows.segmentBackSpec Rows.segmentBackRow=true:=by kernel_rfl
theorem sX:(λ (P:Program) (f:FuncId) (fn:Func) (s:ChangeSpec) (c:OpenClaim)=>((c.inPlace==P.inPlace f))) prog 7 Tryz.f7 Rows.segmentBackSpec Rows.segmentBackRow=true:=by kernel_rfl
theorem qC:(λ (P:Program) (f:FuncId) (fn:Func) (s:ChangeSpec) (c:OpenClaim)=>((c.unfollowed==P.unfollowed f))) prog 7 Tryz.f7 Rows.segmentBackSpec Rows.segmentBackRow=true:=by kernel_rfl
theorem qD:(λ (P:Program) (f:FuncId) (fn:Func) (s:ChangeSpec) (c:OpenClaim)=>((c.recurses==P.recurses f))) prog 7 Tryz.f7 Rows.segmentBackSpec Rows.segmentBackRow=true:=by kernel_rfl
theorem qE:(λ (P:Program) (f:FuncId) (fn:Func) (s:ChangeSpec) (c:OpenClaim)=>((c.named==P.varsNamed f))) prog 7 Tryz.f7 Rows.segmentBackSpec Rows.segmentBackRow=true:=by kernel_rfl
theorem qF:(λ (P:Program) (f:FuncId) (fn:Func) (s:ChangeSpec) (c:OpenClaim)=>((c.maps==(fn.params.toList++s.plain.varTypes P).any (P.mapsRec ·)))) prog 7 Tryz.f7 Rows.segmentBackSpec Rows.segmentBackRow=true:=by kernel_rfl
theorem qG:(λ (P:Program) (f:FuncId) (fn:Func) (s:ChangeSpec) (c:OpenClaim)=>((c.ifaces==(fn.params.toList++s.plain.varTypes P).any (P.ifacesRec ·)))) prog 7 Tryz.f7 Rows.segmentBackSpec Rows.segmentBackRow=true:=by kernel_rfl
theorem qH:(λ (P:Program) (f:FuncId) (fn:Func) (s:ChangeSpec) (c:OpenClaim)=>((c.mapsOut==P.mapsAmong fn.resultTypes.toList))) prog 7 Tryz.f7 Rows.segmentBackSpec Rows.segmentBackRow=true:=by kernel_rfl
theorem qI:(λ (P:Program) (f:FuncId) (fn:Func) (s:ChangeSpec) (c:OpenClaim)=>((c.loops==(fn.params.toList++s.plain.varTypes P).any (P.loopsFrom ·)))) prog 7 Tryz.f7 Rows.segmentBackSpec Rows.segmentBackRow=true:=by kernel_rfl
theorem qJ:(λ (P:Program) (f:FuncId) (fn:Func) (s:ChangeSpec) (c:OpenClaim)=>((c.wideKeys==(fn.params.toList++s.plain.varTypes P++fn.resultTypes.toList).any (P.wideKeysFrom ·)))) prog 7 Tryz.f7 Rows.segmentBackSpec Rows.segmentBackRow=true:=by kernel_rfl
theorem qK:(λ (P:Program) (f:FuncId) (fn:Func) (s:ChangeSpec) (c:OpenClaim)=>(s.vars.all (P.varReadable ·))) prog 7 Tryz.f7 Rows.segmentBackSpec Rows.segmentBackRow=true:=by kernel_rfl
theorem qL:(λ (P:Program) (f:FuncId) (fn:Func) (s:ChangeSpec) (c:OpenClaim)=>(fn.resultTypes.all (λ t=>P.readableRec t&&decide (t<P.types.size)))) prog 7 Tryz.f7 Rows.segmentBackSpec Rows.segmentBackRow=true:=by kernel_rfl
theorem qM:(λ (P:Program) (f:FuncId) (fn:Func) (s:ChangeSpec) (c:OpenClaim)=>((c.ifacesOut==fn.resultTypes.toList.any (P.ifacesRec ·)))) prog 7 Tryz.f7 Rows.segmentBackSpec Rows.segmentBackRow=true:=by kernel_rfl
theorem qN:(λ (P:Program) (f:FuncId) (fn:Func) (s:ChangeSpec) (c:OpenClaim)=>((c.loopsOut==fn.resultTypes.toList.any (P.loopsFrom ·)))) prog 7 Tryz.f7 Rows.segmentBackSpec Rows.segmentBackRow=true:=by kernel_rfl
theorem qO:(λ (P:Program) (f:FuncId) (fn:Func) (s:ChangeSpec) (c:OpenClaim)=>((c.plainKeys==P.plainKeys))) prog 7 Tryz.f7 Rows.segmentBackSpec Rows.segmentBackRow=true:=by kernel_rfl
theorem qP:(λ (P:Program) (f:FuncId) (fn:Func) (s:ChangeSpec) (c:OpenClaim)=>(c.shortTexts.isNone)) prog 7 Tryz.f7 Rows.segmentBackSpec Rows.segmentBackRow=true:=by kernel_rfl
theorem qQ:(λ (P:Program) (f:FuncId) (fn:Func) (s:ChangeSpec) (c:OpenClaim)=>(P.stopsHeard)) prog 7 Tryz.f7 Rows.segmentBackSpec Rows.segmentBackRow=true:=by kernel_rfl
theorem qR:(λ (P:Program) (f:FuncId) (fn:Func) (s:ChangeSpec) (c:OpenClaim)=>(P.mayEnter)) prog 7 Tryz.f7 Rows.segmentBackSpec Rows.segmentBackRow=true:=by kernel_rfl
theorem qS:(λ (P:Program) (f:FuncId) (fn:Func) (s:ChangeSpec) (c:OpenClaim)=>((c.lifted==P.liftsFinal))) prog 7 Tryz.f7 Rows.segmentBackSpec Rows.segmentBackRow=true:=by kernel_rfl
theorem qT:(λ (P:Program) (f:FuncId) (fn:Func) (s:ChangeSpec) (c:OpenClaim)=>((P.make==some c.make))) prog 7 Tryz.f7 Rows.segmentBackSpec Rows.segmentBackRow=true:=by kernel_rfl
theorem qU:(λ (P:Program) (f:FuncId) (fn:Func) (s:ChangeSpec) (c:OpenClaim)=>((c.kinds==(if c.domain.isEmpty then [] else fn.params.toList.map λ t=>match P.underlying t with|some (.int k)=>some k|_=>none)))) prog 7 Tryz.f7 Rows.segmentBackSpec Rows.segmentBackRow=true:=by kernel_rfl
theorem qV:(λ (P:Program) (f:FuncId) (fn:Func) (s:ChangeSpec) (c:OpenClaim)=>((c.pinned==c.pinnedBy))) prog 7 Tryz.f7 Rows.segmentBackSpec Rows.segmentBackRow=true:=by kernel_rfl
theorem qW:(λ (P:Program) (f:FuncId) (fn:Func) (s:ChangeSpec) (c:OpenClaim)=>((c.veiled==(fn.params.toList++s.plain.varTypes P++fn.resultTypes.toList).any (P.veiledRec ·)))) prog 7 Tryz.f7 Rows.segmentBackSpec Rows.segmentBackRow=true:=by kernel_rfl
theorem qX:(λ (P:Program) (f:FuncId) (fn:Func) (s:ChangeSpec) (c:OpenClaim)=>(c.veiledFits P fn.params.toList (fn.params.toList++s.plain.varTypes P++fn.resultTypes.toList))) prog 7 Tryz.f7 Rows.segmentBackSpec Rows.segmentBackRow=true:=by kernel_rfl
theorem lz:joinedFacts prog 7 Tryz.f7 Rows.segmentBackSpec Rows.segmentBackRow=true:=(ax (ax (ax (ax (ax (ax (ax (ax (ax (ax (ax (ax (ax (ax (ax (ax (ax (ax (ax (ax (ax (ax (ax (ax (ax (ax (ax (ax (ax (ax (ax sM sO) sP) sQ) sR) sS) sU) sV) sW) sX) qC) qD) qE) qF) qG) qH) qI) qJ) qK) qL) qM) qN) qO) qP) qQ) qR) qS) qT) qU) qV) qW) qX)
end
end Go.Proofs.YthffkcnbdehceaaGreat
