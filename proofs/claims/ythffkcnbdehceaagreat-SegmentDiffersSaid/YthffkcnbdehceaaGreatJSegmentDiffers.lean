/-The closed facts of the row of SegmentDiffers,one by one. -/
import Derived.Test.YthffkcnbdehceaaGreatLw
open Go.Proofs.Tryz
set_option linter.unusedVariables false
set_option linter.unusedSimpArgs false
set_option linter.unusedSectionVars false
namespace Go.Proofs.YthffkcnbdehceaaGreat
open Go.ChangeShapes Go.WideShapes Go.ChangeAt Go.RowKit Go.Kw
set_option maxRecDepth 100000
section
theorem aq {a b:Bool} (h:a=true) (k:b=true):(a&&b)=true:=by rw [h,k];rfl
theorem n9:(λ (P:Program) (f:FuncId) (fn:Func) (s:ChangeSpec) (c:OpenClaim)=>(c.wf (OpenSpec.ofChange s))) prog 5 Tryz.f5 Rows.segmentDiffersSpec Rows.segmentDiffersRow=true:=by kernel_rfl
theorem na:(λ (P:Program) (f:FuncId) (fn:Func) (s:ChangeSpec) (c:OpenClaim)=>(laidOutB P)) prog 5 Tryz.f5 Rows.segmentDiffersSpec Rows.segmentDiffersRow=true:=by kernel_rfl
theorem nb:(λ (P:Program) (f:FuncId) (fn:Func) (s:ChangeSpec) (c:OpenClaim)=>(mapsRowed P)) prog 5 Tryz.f5 Rows.segmentDiffersSpec Rows.segmentDiffersRow=true:=by kernel_rfl
theorem nc:(λ (P:Program) (f:FuncId) (fn:Func) (s:ChangeSpec) (c:OpenClaim)=>(fn.params.all (P.readableRec ·))) prog 5 Tryz.f5 Rows.segmentDiffersSpec Rows.segmentDiffersRow=true:=by kernel_rfl
theorem ng:(λ (P:Program) (f:FuncId) (fn:Func) (s:ChangeSpec) (c:OpenClaim)=>(namedTie P c.named s.vars)) prog 5 Tryz.f5 Rows.segmentDiffersSpec Rows.segmentDiffersRow=true:=by kernel_rfl
theorem nh:(λ (P:Program) (f:FuncId) (fn:Func) (s:ChangeSpec) (c:OpenClaim)=>((c.stops==[]))) prog 5 Tryz.f5 Rows.segmentDiffersSpec Rows.segmentDiffersRow=true:=by kernel_rfl
theorem ni:(λ (P:Program) (f:FuncId) (fn:Func) (s:ChangeSpec) (c:OpenClaim)=>((P.stops==[]))) prog 5 Tryz.f5 Rows.segmentDiffersSpec Rows.segmentDiffersRow=true:=by kernel_rfl
theorem nj:(λ (P:Program) (f:FuncId) (fn:Func) (s:ChangeSpec) (c:OpenClaim)=>((c.knobs==[]))) prog 5 Tryz.f5 Rows.segmentDiffersSpec Rows.segmentDiffersRow=true:=by kernel_rfl
theorem nk:(λ (P:Program) (f:FuncId) (fn:Func) (s:ChangeSpec) (c:OpenClaim)=>((P.stopKnobs==[]))) prog 5 Tryz.f5 Rows.segmentDiffersSpec Rows.segmentDiffersRow=true:=by kernel_rfl
theorem np:(λ (P:Program) (f:FuncId) (fn:Func) (s:ChangeSpec) (c:OpenClaim)=>((c.inPlace==P.inPlace f))) prog 5 Tryz.f5 Rows.segmentDiffersSpec Rows.segmentDiffersRow=true:=by kernel_rfl
theorem lA:(λ (P:Program) (f:FuncId) (fn:Func) (s:ChangeSpec) (c:OpenClaim)=>((c.unfollowed==P.unfollowed f))) prog 5 Tryz.f5 Rows.segmentDiffersSpec Rows.segmentDiffersRow=true:=by kernel_rfl
theorem lB:(λ (P:Program) (f:FuncId) (fn:Func) (s:ChangeSpec) (c:OpenClaim)=>((c.recurses==P.recurses f))) prog 5 Tryz.f5 Rows.segmentDiffersSpec Rows.segmentDiffersRow=true:=by kernel_rfl
theorem lC:(λ (P:Program) (f:FuncId) (fn:Func) (s:ChangeSpec) (c:OpenClaim)=>((c.named==P.varsNamed f))) prog 5 Tryz.f5 Rows.segmentDiffersSpec Rows.segmentDiffersRow=true:=by kernel_rfl
theorem lD:(λ (P:Program) (f:FuncId) (fn:Func) (s:ChangeSpec) (c:OpenClaim)=>((c.maps==(fn.params.toList++s.plain.varTypes P).any (P.mapsRec ·)))) prog 5 Tryz.f5 Rows.segmentDiffersSpec Rows.segmentDiffersRow=true:=by kernel_rfl
theorem lE:(λ (P:Program) (f:FuncId) (fn:Func) (s:ChangeSpec) (c:OpenClaim)=>((c.ifaces==(fn.params.toList++s.plain.varTypes P).any (P.ifacesRec ·)))) prog 5 Tryz.f5 Rows.segmentDiffersSpec Rows.segmentDiffersRow=true:=by kernel_rfl
theorem lF:(λ (P:Program) (f:FuncId) (fn:Func) (s:ChangeSpec) (c:OpenClaim)=>((c.mapsOut==P.mapsAmong fn.resultTypes.toList))) prog 5 Tryz.f5 Rows.segmentDiffersSpec Rows.segmentDiffersRow=true:=by kernel_rfl
theorem lG:(λ (P:Program) (f:FuncId) (fn:Func) (s:ChangeSpec) (c:OpenClaim)=>((c.loops==(fn.params.toList++s.plain.varTypes P).any (P.loopsFrom ·)))) prog 5 Tryz.f5 Rows.segmentDiffersSpec Rows.segmentDiffersRow=true:=by kernel_rfl
theorem lH:(λ (P:Program) (f:FuncId) (fn:Func) (s:ChangeSpec) (c:OpenClaim)=>((c.wideKeys==(fn.params.toList++s.plain.varTypes P++fn.resultTypes.toList).any (P.wideKeysFrom ·)))) prog 5 Tryz.f5 Rows.segmentDiffersSpec Rows.segmentDiffersRow=true:=by kernel_rfl
theorem lI:(λ (P:Program) (f:FuncId) (fn:Func) (s:ChangeSpec) (c:OpenClaim)=>(s.vars.all (P.varReadable ·))) prog 5 Tryz.f5 Rows.segmentDiffersSpec Rows.segmentDiffersRow=true:=by kernel_rfl
theorem lJ:(λ (P:Program) (f:FuncId) (fn:Func) (s:ChangeSpec) (c:OpenClaim)=>(fn.resultTypes.all (λ t=>P.readableRec t&&decide (t<P.types.size)))) prog 5 Tryz.f5 Rows.segmentDiffersSpec Rows.segmentDiffersRow=true:=by kernel_rfl
theorem lK:(λ (P:Program) (f:FuncId) (fn:Func) (s:ChangeSpec) (c:OpenClaim)=>((c.ifacesOut==fn.resultTypes.toList.any (P.ifacesRec ·)))) prog 5 Tryz.f5 Rows.segmentDiffersSpec Rows.segmentDiffersRow=true:=by kernel_rfl
theorem lL:(λ (P:Program) (f:FuncId) (fn:Func) (s:ChangeSpec) (c:OpenClaim)=>((c.loopsOut==fn.resultTypes.toList.any (P.loopsFrom ·)))) prog 5 Tryz.f5 Rows.segmentDiffersSpec Rows.segmentDiffersRow=true:=by kernel_rfl
theorem lM:(λ (P:Program) (f:FuncId) (fn:Func) (s:ChangeSpec) (c:OpenClaim)=>((c.plainKeys==P.plainKeys))) prog 5 Tryz.f5 Rows.segmentDiffersSpec Rows.segmentDiffersRow=true:=by kernel_rfl
theorem lN:(λ (P:Program) (f:FuncId) (fn:Func) (s:ChangeSpec) (c:OpenClaim)=>(c.shortTexts.isNone)) prog 5 Tryz.f5 Rows.segmentDiffersSpec Rows.segmentDiffersRow=true:=by kernel_rfl
theorem lO:(λ (P:Program) (f:FuncId) (fn:Func) (s:ChangeSpec) (c:OpenClaim)=>(P.stopsHeard)) prog 5 Tryz.f5 Rows.segmentDiffersSpec Rows.segmentDiffersRow=true:=by kernel_rfl
theorem lP:(λ (P:Program) (f:FuncId) (fn:Func) (s:ChangeSpec) (c:OpenClaim)=>(P.mayEnter)) prog 5 Tryz.f5 Rows.segmentDiffersSpec Rows.segmentDiffersRow=true:=by kernel_rfl
theorem lQ:(λ (P:Program) (f:FuncId) (fn:Func) (s:ChangeSpec) (c:OpenClaim)=>((c.lifted==P.liftsFinal))) prog 5 Tryz.f5 Rows.segmentDiffersSpec Rows.segmentDiffersRow=true:=by kernel_rfl
theorem lR:(λ (P:Program) (f:FuncId) (fn:Func) (s:ChangeSpec) (c:OpenClaim)=>((P.make==some c.make))) prog 5 Tryz.f5 Rows.segmentDiffersSpec Rows.segmentDiffersRow=true:=by kernel_rfl
theorem lS:(λ (P:Program) (f:FuncId) (fn:Func) (s:ChangeSpec) (c:OpenClaim)=>((c.kinds==(if c.domain.isEmpty then [] else fn.params.toList.map λ t=>match P.underlying t with|some (.int k)=>some k|_=>none)))) prog 5 Tryz.f5 Rows.segmentDiffersSpec Rows.segmentDiffersRow=true:=by kernel_rfl
theorem lT:(λ (P:Program) (f:FuncId) (fn:Func) (s:ChangeSpec) (c:OpenClaim)=>((c.pinned==c.pinnedBy))) prog 5 Tryz.f5 Rows.segmentDiffersSpec Rows.segmentDiffersRow=true:=by kernel_rfl
theorem lU:(λ (P:Program) (f:FuncId) (fn:Func) (s:ChangeSpec) (c:OpenClaim)=>((c.veiled==(fn.params.toList++s.plain.varTypes P++fn.resultTypes.toList).any (P.veiledRec ·)))) prog 5 Tryz.f5 Rows.segmentDiffersSpec Rows.segmentDiffersRow=true:=by kernel_rfl
theorem lV:(λ (P:Program) (f:FuncId) (fn:Func) (s:ChangeSpec) (c:OpenClaim)=>(c.veiledFits P fn.params.toList (fn.params.toList++s.plain.varTypes P++fn.resultTypes.toList))) prog 5 Tryz.f5 Rows.segmentDiffersSpec Rows.segmentDiffersRow=true:=by kernel_rfl
theorem js:joinedFacts prog 5 Tryz.f5 Rows.segmentDiffersSpec Rows.segmentDiffersRow=true:=(aq (aq (aq (aq (aq (aq (aq (aq (aq (aq (aq (aq (aq (aq (aq (aq (aq (aq (aq (aq (aq (aq (aq (aq (aq (aq (aq (aq (aq (aq (aq n9 na) nb) nc) ng) nh) ni) nj) nk) np) lA) lB) lC) lD) lE) lF) lG) lH) lI) lJ) lK) lL) lM) lN) lO) lP) lQ) lR) lS) lT) lU) lV)
end
end Go.Proofs.YthffkcnbdehceaaGreat
