/-The closed facts of the row of SegmentEncodes,one by one. -/
import Derived.Test.YthffkcnbdehceaaGreatLw
open Go.Proofs.Tryz
set_option linter.unusedVariables false
set_option linter.unusedSimpArgs false
set_option linter.unusedSectionVars false
namespace Go.Proofs.YthffkcnbdehceaaGreat
open Go.ChangeShapes Go.WideShapes Go.ChangeAt Go.RowKit Go.Kw
set_option maxRecDepth 100000
section
theorem au {a b:Bool} (h:a=true) (k:b=true):(a&&b)=true:=by rw [h,k];rfl
theorem mS:(λ (P:Program) (f:FuncId) (fn:Func) (s:ChangeSpec) (c:OpenClaim)=>(c.wf (OpenSpec.ofChange s))) prog 3 Tryz.f3 Rows.segmentEncodesSpec Rows.segmentEncodesRow=true:=by kernel_rfl
theorem mT:(λ (P:Program) (f:FuncId) (fn:Func) (s:ChangeSpec) (c:OpenClaim)=>(laidOutB P)) prog 3 Tryz.f3 Rows.segmentEncodesSpec Rows.segmentEncodesRow=true:=by kernel_rfl
theorem mU:(λ (P:Program) (f:FuncId) (fn:Func) (s:ChangeSpec) (c:OpenClaim)=>(mapsRowed P)) prog 3 Tryz.f3 Rows.segmentEncodesSpec Rows.segmentEncodesRow=true:=by kernel_rfl
theorem mV:(λ (P:Program) (f:FuncId) (fn:Func) (s:ChangeSpec) (c:OpenClaim)=>(fn.params.all (P.readableRec ·))) prog 3 Tryz.f3 Rows.segmentEncodesSpec Rows.segmentEncodesRow=true:=by kernel_rfl
theorem mW:(λ (P:Program) (f:FuncId) (fn:Func) (s:ChangeSpec) (c:OpenClaim)=>(namedTie P c.named s.vars)) prog 3 Tryz.f3 Rows.segmentEncodesSpec Rows.segmentEncodesRow=true:=by kernel_rfl
theorem mX:(λ (P:Program) (f:FuncId) (fn:Func) (s:ChangeSpec) (c:OpenClaim)=>((c.stops==[]))) prog 3 Tryz.f3 Rows.segmentEncodesSpec Rows.segmentEncodesRow=true:=by kernel_rfl
theorem mY:(λ (P:Program) (f:FuncId) (fn:Func) (s:ChangeSpec) (c:OpenClaim)=>((P.stops==[]))) prog 3 Tryz.f3 Rows.segmentEncodesSpec Rows.segmentEncodesRow=true:=by kernel_rfl
theorem mZ:(λ (P:Program) (f:FuncId) (fn:Func) (s:ChangeSpec) (c:OpenClaim)=>((c.knobs==[]))) prog 3 Tryz.f3 Rows.segmentEncodesSpec Rows.segmentEncodesRow=true:=by kernel_rfl
theorem n0:(λ (P:Program) (f:FuncId) (fn:Func) (s:ChangeSpec) (c:OpenClaim)=>((P.stopKnobs==[]))) prog 3 Tryz.f3 Rows.segmentEncodesSpec Rows.segmentEncodesRow=true:=by kernel_rfl
theorem n1:(λ (P:Program) (f:FuncId) (fn:Func) (s:ChangeSpec) (c:OpenClaim)=>((c.inPlace==P.inPlace f))) prog 3 Tryz.f3 Rows.segmentEncodesSpec Rows.segmentEncodesRow=true:=by kernel_rfl
theorem lL:(λ (P:Program) (f:FuncId) (fn:Func) (s:ChangeSpec) (c:OpenClaim)=>((c.unfollowed==P.unfollowed f))) prog 3 Tryz.f3 Rows.segmentEncodesSpec Rows.segmentEncodesRow=true:=by kernel_rfl
theorem lM:(λ (P:Program) (f:FuncId) (fn:Func) (s:ChangeSpec) (c:OpenClaim)=>((c.recurses==P.recurses f))) prog 3 Tryz.f3 Rows.segmentEncodesSpec Rows.segmentEncodesRow=true:=by kernel_rfl
theorem lN:(λ (P:Program) (f:FuncId) (fn:Func) (s:ChangeSpec) (c:OpenClaim)=>((c.named==P.varsNamed f))) prog 3 Tryz.f3 Rows.segmentEncodesSpec Rows.segmentEncodesRow=true:=by kernel_rfl
theorem lO:(λ (P:Program) (f:FuncId) (fn:Func) (s:ChangeSpec) (c:OpenClaim)=>((c.maps==(fn.params.toList++s.plain.varTypes P).any (P.mapsRec ·)))) prog 3 Tryz.f3 Rows.segmentEncodesSpec Rows.segmentEncodesRow=true:=by kernel_rfl
theorem lP:(λ (P:Program) (f:FuncId) (fn:Func) (s:ChangeSpec) (c:OpenClaim)=>((c.ifaces==(fn.params.toList++s.plain.varTypes P).any (P.ifacesRec ·)))) prog 3 Tryz.f3 Rows.segmentEncodesSpec Rows.segmentEncodesRow=true:=by kernel_rfl
theorem lQ:(λ (P:Program) (f:FuncId) (fn:Func) (s:ChangeSpec) (c:OpenClaim)=>((c.mapsOut==P.mapsAmong fn.resultTypes.toList))) prog 3 Tryz.f3 Rows.segmentEncodesSpec Rows.segmentEncodesRow=true:=by kernel_rfl
theorem lR:(λ (P:Program) (f:FuncId) (fn:Func) (s:ChangeSpec) (c:OpenClaim)=>((c.loops==(fn.params.toList++s.plain.varTypes P).any (P.loopsFrom ·)))) prog 3 Tryz.f3 Rows.segmentEncodesSpec Rows.segmentEncodesRow=true:=by kernel_rfl
theorem lS:(λ (P:Program) (f:FuncId) (fn:Func) (s:ChangeSpec) (c:OpenClaim)=>((c.wideKeys==(fn.params.toList++s.plain.varTypes P++fn.resultTypes.toList).any (P.wideKeysFrom ·)))) prog 3 Tryz.f3 Rows.segmentEncodesSpec Rows.segmentEncodesRow=true:=by kernel_rfl
theorem lT:(λ (P:Program) (f:FuncId) (fn:Func) (s:ChangeSpec) (c:OpenClaim)=>(s.vars.all (P.varReadable ·))) prog 3 Tryz.f3 Rows.segmentEncodesSpec Rows.segmentEncodesRow=true:=by kernel_rfl
theorem lU:(λ (P:Program) (f:FuncId) (fn:Func) (s:ChangeSpec) (c:OpenClaim)=>(fn.resultTypes.all (λ t=>P.readableRec t&&decide (t<P.types.size)))) prog 3 Tryz.f3 Rows.segmentEncodesSpec Rows.segmentEncodesRow=true:=by kernel_rfl
theorem lV:(λ (P:Program) (f:FuncId) (fn:Func) (s:ChangeSpec) (c:OpenClaim)=>((c.ifacesOut==fn.resultTypes.toList.any (P.ifacesRec ·)))) prog 3 Tryz.f3 Rows.segmentEncodesSpec Rows.segmentEncodesRow=true:=by kernel_rfl
theorem lW:(λ (P:Program) (f:FuncId) (fn:Func) (s:ChangeSpec) (c:OpenClaim)=>((c.loopsOut==fn.resultTypes.toList.any (P.loopsFrom ·)))) prog 3 Tryz.f3 Rows.segmentEncodesSpec Rows.segmentEncodesRow=true:=by kernel_rfl
theorem lX:(λ (P:Program) (f:FuncId) (fn:Func) (s:ChangeSpec) (c:OpenClaim)=>((c.plainKeys==P.plainKeys))) prog 3 Tryz.f3 Rows.segmentEncodesSpec Rows.segmentEncodesRow=true:=by kernel_rfl
theorem lY:(λ (P:Program) (f:FuncId) (fn:Func) (s:ChangeSpec) (c:OpenClaim)=>(c.shortTexts.isNone)) prog 3 Tryz.f3 Rows.segmentEncodesSpec Rows.segmentEncodesRow=true:=by kernel_rfl
theorem lZ:(λ (P:Program) (f:FuncId) (fn:Func) (s:ChangeSpec) (c:OpenClaim)=>(P.stopsHeard)) prog 3 Tryz.f3 Rows.segmentEncodesSpec Rows.segmentEncodesRow=true:=by kernel_rfl
theorem ma:(λ (P:Program) (f:FuncId) (fn:Func) (s:ChangeSpec) (c:OpenClaim)=>(P.mayEnter)) prog 3 Tryz.f3 Rows.segmentEncodesSpec Rows.segmentEncodesRow=true:=by kernel_rfl
theorem mb:(λ (P:Program) (f:FuncId) (fn:Func) (s:ChangeSpec) (c:OpenClaim)=>((c.lifted==P.liftsFinal))) prog 3 Tryz.f3 Rows.segmentEncodesSpec Rows.segmentEncodesRow=true:=by kernel_rfl
theorem mc:(λ (P:Program) (f:FuncId) (fn:Func) (s:ChangeSpec) (c:OpenClaim)=>((P.make==some c.make))) prog 3 Tryz.f3 Rows.segmentEncodesSpec Rows.segmentEncodesRow=true:=by kernel_rfl
theorem me:(λ (P:Program) (f:FuncId) (fn:Func) (s:ChangeSpec) (c:OpenClaim)=>((c.kinds==(if c.domain.isEmpty then [] else fn.params.toList.map λ t=>match P.underlying t with|some (.int k)=>some k|_=>none)))) prog 3 Tryz.f3 Rows.segmentEncodesSpec Rows.segmentEncodesRow=true:=by kernel_rfl
theorem mf:(λ (P:Program) (f:FuncId) (fn:Func) (s:ChangeSpec) (c:OpenClaim)=>((c.pinned==c.pinnedBy))) prog 3 Tryz.f3 Rows.segmentEncodesSpec Rows.segmentEncodesRow=true:=by kernel_rfl
theorem mg:(λ (P:Program) (f:FuncId) (fn:Func) (s:ChangeSpec) (c:OpenClaim)=>((c.veiled==(fn.params.toList++s.plain.varTypes P++fn.resultTypes.toList).any (P.veiledRec ·)))) prog 3 Tryz.f3 Rows.segmentEncodesSpec Rows.segmentEncodesRow=true:=by kernel_rfl
theorem mh:(λ (P:Program) (f:FuncId) (fn:Func) (s:ChangeSpec) (c:OpenClaim)=>(c.veiledFits P fn.params.toList (fn.params.toList++s.plain.varTypes P++fn.resultTypes.toList))) prog 3 Tryz.f3 Rows.segmentEncodesSpec Rows.segmentEncodesRow=true:=by kernel_rfl
theorem jE:joinedFacts prog 3 Tryz.f3 Rows.segmentEncodesSpec Rows.segmentEncodesRow=true:=(au (au (au (au (au (au (au (au (au (au (au (au (au (au (au (au (au (au (au (au (au (au (au (au (au (au (au (au (au (au (au mS mT) mU) mV) mW) mX) mY) mZ) n0) n1) lL) lM) lN) lO) lP) lQ) lR) lS) lT) lU) lV) lW) lX) lY) lZ) ma) mb) mc) me) mf) mg) mh)
end
end Go.Proofs.YthffkcnbdehceaaGreat
