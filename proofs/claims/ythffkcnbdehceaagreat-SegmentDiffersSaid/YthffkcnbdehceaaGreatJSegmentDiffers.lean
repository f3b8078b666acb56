/-The closed facts of the row of SegmentDiffers,one by one. -/
import Derived.Test.YthffkcnbdehceaaGreatLw
set_option linter.unusedVariables false
set_option linter.unusedSimpArgs false
set_option linter.unusedSectionVars false
namespace Go.Proofs.YthffkcnbdehceaaGreat
open Go.ChangeShapes Go.WideShapes Go.ChangeAt Go.RowKit Go.Kw
set_option maxRecDepth 100000
section
theorem aq {a b:Bool} (h:a=true) (k:b=true):(a&&b)=true:=by rw [h,k];rfl
theorem lZ:(λ (P:Program) (f:FuncId) (fn:Func) (s:ChangeSpec) (c:OpenClaim)=>(c.wf (OpenSpec.ofChange s))) Tryz.prog 5 Tryz.f5 Rows.segmentDiffersSpec Rows.segmentDiffersRow=true:=by kernel_rfl
theorem ma:(λ (P:Program) (f:FuncId) (fn:Func) (s:ChangeSpec) (c:OpenClaim)=>(laidOutB P)) Tryz.prog 5 Tryz.f5 Rows.segmentDiffersSpec Rows.segmentDiffersRow=true:=by kernel_rfl
theorem mb:(λ (P:Program) (f:FuncId) (fn:Func) (s:ChangeSpec) (c:OpenClaim)=>(mapsRowed P)) Tryz.prog 5 Tryz.f5 Rows.segmentDiffersSpec Rows.segmentDiffersRow=true:=by kernel_rfl
theorem mc:(λ (P:Program) (f:FuncId) (fn:Func) (s:ChangeSpec) (c:OpenClaim)=>(fn.params.all (P.readableRec ·))) Tryz.prog 5 Tryz.f5 Rows.segmentDiffersSpec Rows.segmentDiffersRow=true:=by kernel_rfl
theorem me:(λ (P:Program) (f:FuncId) (fn:Func) (s:ChangeSpec) (c:OpenClaim)=>(namedTie P c.named s.vars)) Tryz.prog 5 Tryz.f5 Rows.segmentDiffersSpec Rows.segmentDiffersRow=true:=by kernel_rfl
theorem mf:(λ (P:Program) (f:FuncId) (fn:Func) (s:ChangeSpec) (c:OpenClaim)=>((c.stops==[]))) Tryz.prog 5 Tryz.f5 Rows.segmentDiffersSpec Rows.segmentDiffersRow=true:=by kernel_rfl
theorem mg:(λ (P:Program) (f:FuncId) (fn:Func) (s:ChangeSpec) (c:OpenClaim)=>((P.stops==[]))) Tryz.prog 5 Tryz.f5 Rows.segmentDiffersSpec Rows.segmentDiffersRow=true:=by kernel_rfl
theorem mh:(λ (P:Program) (f:FuncId) (fn:Func) (s:ChangeSpec) (c:OpenClaim)=>((c.knobs==[]))) Tryz.prog 5 Tryz.f5 Rows.segmentDiffersSpec Rows.segmentDiffersRow=true:=by kernel_rfl
theorem mi:(λ (P:Program) (f:FuncId) (fn:Func) (s:ChangeSpec) (c:OpenClaim)=>((P.stopKnobs==[]))) Tryz.prog 5 Tryz.f5 Rows.segmentDiffersSpec Rows.segmentDiffersRow=true:=by kernel_rfl
theorem mj:(λ (P:Program) (f:FuncId) (fn:Func) (s:ChangeSpec) (c:OpenClaim)=>((c.inPlace==P.inPlace f))) Tryz.prog 5 Tryz.f5 Rows.segmentDiffersSpec Rows.segmentDiffersRow=true:=by kernel_rfl
theorem kQ:(λ (P:Program) (f:FuncId) (fn:Func) (s:ChangeSpec) (c:OpenClaim)=>((c.unfollowed==P.unfollowed f))) Tryz.prog 5 Tryz.f5 Rows.segmentDiffersSpec Rows.segmentDiffersRow=true:=by kernel_rfl
theorem kR:(λ (P:Program) (f:FuncId) (fn:Func) (s:ChangeSpec) (c:OpenClaim)=>((c.recurses==P.recurses f))) Tryz.prog 5 Tryz.f5 Rows.segmentDiffersSpec Rows.segmentDiffersRow=true:=by kernel_rfl
theorem kS:(λ (P:Program) (f:FuncId) (fn:Func) (s:ChangeSpec) (c:OpenClaim)=>((c.named==P.varsNamed f))) Tryz.prog 5 Tryz.f5 Rows.segmentDiffersSpec Rows.segmentDiffersRow=true:=by kernel_rfl
theorem kT:(λ (P:Program) (f:FuncId) (fn:Func) (s:ChangeSpec) (c:OpenClaim)=>((c.maps==(fn.params.toList++s.plain.varTypes P).any (P.mapsRec ·)))) Tryz.prog 5 Tryz.f5 Rows.segmentDiffersSpec Rows.segmentDiffersRow=true:=by kernel_rfl
theorem kU:(λ (P:Program) (f:FuncId) (fn:Func) (s:ChangeSpec) (c:OpenClaim)=>((c.ifaces==(fn.params.toList++s.plain.varTypes P).any (P.ifacesRec ·)))) Tryz.prog 5 Tryz.f5 Rows.segmentDiffersSpec Rows.segmentDiffersRow=true:=by kernel_rfl
theorem kV:(λ (P:Program) (f:FuncId) (fn:Func) (s:ChangeSpec) (c:OpenClaim)=>((c.mapsOut==P.mapsAmong fn.resultTypes.toList))) Tryz.prog 5 Tryz.f5 Rows.segmentDiffersSpec Rows.segmentDiffersRow=true:=by kernel_rfl
theorem kW:(λ (P:Program) (f:FuncId) (fn:Func) (s:ChangeSpec) (c:OpenClaim)=>((c.loops==(fn.params.toList++s.plain.varTypes P).any (P.loopsFrom ·)))) Tryz.prog 5 Tryz.f5 Rows.segmentDiffersSpec Rows.segmentDiffersRow=true:=by kernel_rfl
theorem kX:(λ (P:Program) (f:FuncId) (fn:Func) (s:ChangeSpec) (c:OpenClaim)=>((c.wideKeys==(fn.params.toList++s.plain.varTypes P++fn.resultTypes.toList).any (P.wideKeysFrom ·)))) Tryz.prog 5 Tryz.f5 Rows.segmentDiffersSpec Rows.segmentDiffersRow=true:=by kernel_rfl
theorem kY:(λ (P:Program) (f:FuncId) (fn:Func) (s:ChangeSpec) (c:OpenClaim)=>(s.vars.all (P.varReadable ·))) Tryz.prog 5 Tryz.f5 Rows.segmentDiffersSpec Rows.segmentDiffersRow=true:=by kernel_rfl
theorem kZ:(λ (P:Program) (f:FuncId) (fn:Func) (s:ChangeSpec) (c:OpenClaim)=>(fn.resultTypes.all (λ t=>P.readableRec t&&decide (t<P.types.size)))) Tryz.prog 5 Tryz.f5 Rows.segmentDiffersSpec Rows.segmentDiffersRow=true:=by kernel_rfl
theorem l0:(λ (P:Program) (f:FuncId) (fn:Func) (s:ChangeSpec) (c:OpenClaim)=>((c.ifacesOut==fn.resultTypes.toList.any (P.ifacesRec ·)))) Tryz.prog 5 Tryz.f5 Rows.segmentDiffersSpec Rows.segmentDiffersRow=true:=by kernel_rfl
theorem l3:(λ (P:Program) (f:FuncId) (fn:Func) (s:ChangeSpec) (c:OpenClaim)=>((c.loopsOut==fn.resultTypes.toList.any (P.loopsFrom ·)))) Tryz.prog 5 Tryz.f5 Rows.segmentDiffersSpec Rows.segmentDiffersRow=true:=by kernel_rfl
theorem l4:(λ (P:Program) (f:FuncId) (fn:Func) (s:ChangeSpec) (c:OpenClaim)=>((c.plainKeys==P.plainKeys))) Tryz.prog 5 Tryz.f5 Rows.segmentDiffersSpec Rows.segmentDiffersRow=true:=by kernel_rfl
theorem l5:(λ (P:Program) (f:FuncId) (fn:Func) (s:ChangeSpec) (c:OpenClaim)=>(c.shortTexts.isNone)) Tryz.prog 5 Tryz.f5 Rows.segmentDiffersSpec Rows.segmentDiffersRow=true:=by kernel_rfl
theorem l6:(λ (P:Program) (f:FuncId) (fn:Func) (s:ChangeSpec) (c:OpenClaim)=>(P.stopsHeard)) Tryz.prog 5 Tryz.f5 Rows.segmentDiffersSpec Rows.segmentDiffersRow=true:=by kernel_rfl
theorem l7:(λ (P:Program) (f:FuncId) (fn:Func) (s:ChangeSpec) (c:OpenClaim)=>(P.mayEnter)) Tryz.prog 5 Tryz.f5 Rows.segmentDiffersSpec Rows.segmentDiffersRow=true:=by kernel_rfl
theorem l8:(λ (P:Program) (f:FuncId) (fn:Func) (s:ChangeSpec) (c:OpenClaim)=>((c.lifted==P.liftsFinal))) Tryz.prog 5 Tryz.f5 Rows.segmentDiffersSpec Rows.segmentDiffersRow=true:=by kernel_rfl
theorem l9:(λ (P:Program) (f:FuncId) (fn:Func) (s:ChangeSpec) (c:OpenClaim)=>((P.make==some c.make))) Tryz.prog 5 Tryz.f5 Rows.segmentDiffersSpec Rows.segmentDiffersRow=true:=by kernel_rfl
theorem la:(λ (P:Program) (f:FuncId) (fn:Func) (s:ChangeSpec) (c:OpenClaim)=>((c.kinds==(if c.domain.isEmpty then [] else fn.params.toList.map λ t=>match P.underlying t with|some (.int k)=>some k|_=>none)))) Tryz.prog 5 Tryz.f5 Rows.segmentDiffersSpec Rows.segmentDiffersRow=true:=by kernel_rfl
theorem lb:(λ (P:Program) (f:FuncId) (fn:Func) (s:ChangeSpec) (c:OpenClaim)=>((c.pinned==c.pinnedBy))) Tryz.prog 5 Tryz.f5 Rows.segmentDiffersSpec Rows.segmentDiffersRow=true:=by kernel_rfl
theorem lh:(λ (P:Program) (f:FuncId) (fn:Func) (s:ChangeSpec) (c:OpenClaim)=>((c.veiled==(fn.params.toList++s.plain.varTypes P++fn.resultTypes.toList).any (P.veiledRec ·)))) Tryz.prog 5 Tryz.f5 Rows.segmentDiffersSpec Rows.segmentDiffersRow=true:=by kernel_rfl
theorem lj:(λ (P:Program) (f:FuncId) (fn:Func) (s:ChangeSpec) (c:OpenClaim)=>(c.veiledFits P fn.params.toList (fn.params.toList++s.plain.varTypes P++fn.resultTypes.toList))) Tryz.prog 5 Tryz.f5 Rows.segmentDiffersSpec Rows.segmentDiffersRow=true:=by kernel_rfl
theorem j5:joinedFacts Tryz.prog 5 Tryz.f5 Rows.segmentDiffersSpec Rows.segmentDiffersRow=true:=(aq (aq (aq (aq (aq (aq (aq (aq (aq (aq (aq (aq (aq (aq (aq (aq (aq (aq (aq (aq (aq (aq (aq (aq (aq (aq (aq (aq (aq (aq (aq lZ ma) mb) mc) me) mf) mg) mh) mi) mj) kQ) kR) kS) kT) kU) kV) kW) kX) kY) kZ) l0) l3) l4) l5) l6) l7) l8) l9) la) lb) lh) lj)
end
end Go.Proofs.YthffkcnbdehceaaGreat
