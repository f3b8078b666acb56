/-The closed facts of the row of SegmentValues,one by one. -/
import Derived.Test.YthffkcnbdehceaaGreatLw
set_option linter.all false
set_option maxRecDepth 100000
open Go.Proofs.Tryz
namespace Go.Proofs.YthffkcnbdehceaaGreat
open Go.ChangeShapes Go.WideShapes Go.ChangeAt Go.RowKit Go.Kw
section
theorem aw{a b:Bool}(h:a=true)(k:b=true):(a&&b)=true:=by rw[h,k];rfl
theorem oG:(λ(P:Program) (f:FuncId) (fn:Func) (s:ChangeSpec) (c:OpenClaim)=>(c.wf (OpenSpec.ofChange s))) prog 8 Tryz.f8 Rows.segmentValuesSpec Rows.segmentValuesRow=true:=by kernel_rfl
theorem oH:(λ(P:Program) (f:FuncId) (fn:Func) (s:ChangeSpec) (c:OpenClaim)=>(laidOutB P)) prog 8 Tryz.f8 Rows.segmentValuesSpec Rows.segmentValuesRow=true:=by kernel_rfl
theorem oI:(λ(P:Program) (f:FuncId) (fn:Func) (s:ChangeSpec) (c:OpenClaim)=>(mapsRowed P)) prog 8 Tryz.f8 Rows.segmentValuesSpec Rows.segmentValuesRow=true:=by kernel_rfl
theorem oJ:(λ(P:Program) (f:FuncId) (fn:Func) (s:ChangeSpec) (c:OpenClaim)=>(fn.params.all (P.readableRec ·))) prog 8 Tryz.f8 Rows.segmentValuesSpec Rows.segmentValuesRow=true:=by kernel_rfl
theorem oK:(λ(P:Program) (f:FuncId) (fn:Func) (s:ChangeSpec) (c:OpenClaim)=>(namedTie P c.named s.vars)) prog 8 Tryz.f8 Rows.segmentValuesSpec Rows.segmentValuesRow=true:=by kernel_rfl
theorem oL:(λ(P:Program) (f:FuncId) (fn:Func) (s:ChangeSpec) (c:OpenClaim)=>((c.stops==[]))) prog 8 Tryz.f8 Rows.segmentValuesSpec Rows.segmentValuesRow=true:=by kernel_rfl
theorem oM:(λ(P:Program) (f:FuncId) (fn:Func) (s:ChangeSpec) (c:OpenClaim)=>((P.stops==[]))) prog 8 Tryz.f8 Rows.segmentValuesSpec Rows.segmentValuesRow=true:=by kernel_rfl
theorem oN:(λ(P:Program) (f:FuncId) (fn:Func) (s:ChangeSpec) (c:OpenClaim)=>((c.knobs==[]))) prog 8 Tryz.f8 Rows.segmentValuesSpec Rows.segmentValuesRow=true:=by kernel_rfl
theorem oO:(λ(P:Program) (f:FuncId) (fn:Func) (s:ChangeSpec) (c:OpenClaim)=>((P.stopKnobs==[]))) prog 8 Tryz.f8 Rows.segmentValuesSpec Rows.segmentValuesRow=true:=by kernel_rfl
theorem oP:(λ(P:Program) (f:FuncId) (fn:Func) (s:ChangeSpec) (c:OpenClaim)=>((c.inPlace==P.inPlace f))) prog 8 Tryz.f8 Rows.segmentValuesSpec Rows.segmentValuesRow=true:=by kernel_rfl
theorem n2:(λ(P:Program) (f:FuncId) (fn:Func) (s:ChangeSpec) (c:OpenClaim)=>((c.unfollowed==P.unfollowed f))) prog 8 Tryz.f8 Rows.segmentValuesSpec Rows.segmentValuesRow=true:=by kernel_rfl
theorem n3:(λ(P:Program) (f:FuncId) (fn:Func) (s:ChangeSpec) (c:OpenClaim)=>((c.recurses==P.recurses f))) prog 8 Tryz.f8 Rows.segmentValuesSpec Rows.segmentValuesRow=true:=by kernel_rfl
theorem n4:(λ(P:Program) (f:FuncId) (fn:Func) (s:ChangeSpec) (c:OpenClaim)=>((c.named==P.varsNamed f))) prog 8 Tryz.f8 Rows.segmentValuesSpec Rows.segmentValuesRow=true:=by kernel_rfl
theorem n5:(λ(P:Program) (f:FuncId) (fn:Func) (s:ChangeSpec) (c:OpenClaim)=>((c.maps==(fn.params.toList++s.plain.varTypes P).any (P.mapsRec ·)))) prog 8 Tryz.f8 Rows.segmentValuesSpec Rows.segmentValuesRow=true:=by kernel_rfl
theorem n9:(λ(P:Program) (f:FuncId) (fn:Func) (s:ChangeSpec) (c:OpenClaim)=>((c.ifaces==(fn.params.toList++s.plain.varTypes P).any (P.ifacesRec ·)))) prog 8 Tryz.f8 Rows.segmentValuesSpec Rows.segmentValuesRow=true:=by kernel_rfl
theorem na:(λ(P:Program) (f:FuncId) (fn:Func) (s:ChangeSpec) (c:OpenClaim)=>((c.mapsOut==P.mapsAmong fn.resultTypes.toList))) prog 8 Tryz.f8 Rows.segmentValuesSpec Rows.segmentValuesRow=true:=by kernel_rfl
theorem nb:(λ(P:Program) (f:FuncId) (fn:Func) (s:ChangeSpec) (c:OpenClaim)=>((c.loops==(fn.params.toList++s.plain.varTypes P).any (P.loopsFrom ·)))) prog 8 Tryz.f8 Rows.segmentValuesSpec Rows.segmentValuesRow=true:=by kernel_rfl
theorem nc:(λ(P:Program) (f:FuncId) (fn:Func) (s:ChangeSpec) (c:OpenClaim)=>((c.wideKeys==(fn.params.toList++s.plain.varTypes P++fn.resultTypes.toList).any (P.wideKeysFrom ·)))) prog 8 Tryz.f8 Rows.segmentValuesSpec Rows.segmentValuesRow=true:=by kernel_rfl
theorem ng:(λ(P:Program) (f:FuncId) (fn:Func) (s:ChangeSpec) (c:OpenClaim)=>(s.vars.all (P.varReadable ·))) prog 8 Tryz.f8 Rows.segmentValuesSpec Rows.segmentValuesRow=true:=by kernel_rfl
theorem nh:(λ(P:Program) (f:FuncId) (fn:Func) (s:ChangeSpec) (c:OpenClaim)=>(fn.resultTypes.all (λ t=>P.readableRec t&&decide (t<P.types.size)))) prog 8 Tryz.f8 Rows.segmentValuesSpec Rows.segmentValuesRow=true:=by kernel_rfl
theorem ni:(λ(P:Program) (f:FuncId) (fn:Func) (s:ChangeSpec) (c:OpenClaim)=>((c.ifacesOut==fn.resultTypes.toList.any (P.ifacesRec ·)))) prog 8 Tryz.f8 Rows.segmentValuesSpec Rows.segmentValuesRow=true:=by kernel_rfl
theorem nj:(λ(P:Program) (f:FuncId) (fn:Func) (s:ChangeSpec) (c:OpenClaim)=>((c.loopsOut==fn.resultTypes.toList.any (P.loopsFrom ·)))) prog 8 Tryz.f8 Rows.segmentValuesSpec Rows.segmentValuesRow=true:=by kernel_rfl
theorem nk:(λ(P:Program) (f:FuncId) (fn:Func) (s:ChangeSpec) (c:OpenClaim)=>((c.plainKeys==P.plainKeys))) prog 8 Tryz.f8 Rows.segmentValuesSpec Rows.segmentValuesRow=true:=by kernel_rfl
theorem np:(λ(P:Program) (f:FuncId) (fn:Func) (s:ChangeSpec) (c:OpenClaim)=>(c.shortTexts.isNone)) prog 8 Tryz.f8 Rows.segmentValuesSpec Rows.segmentValuesRow=true:=by kernel_rfl
theorem nq:(λ(P:Program) (f:FuncId) (fn:Func) (s:ChangeSpec) (c:OpenClaim)=>(P.stopsHeard)) prog 8 Tryz.f8 Rows.segmentValuesSpec Rows.segmentValuesRow=true:=by kernel_rfl
theorem nr:(λ(P:Program) (f:FuncId) (fn:Func) (s:ChangeSpec) (c:OpenClaim)=>(P.mayEnter)) prog 8 Tryz.f8 Rows.segmentValuesSpec Rows.segmentValuesRow=true:=by kernel_rfl
theorem nt:(λ(P:Program) (f:FuncId) (fn:Func) (s:ChangeSpec) (c:OpenClaim)=>((c.lifted==P.liftsFinal))) prog 8 Tryz.f8 Rows.segmentValuesSpec Rows.segmentValuesRow=true:=by kernel_rfl
theorem nu:(λ(P:Program) (f:FuncId) (fn:Func) (s:ChangeSpec) (c:OpenClaim)=>((P.make==some c.make))) prog 8 Tryz.f8 Rows.segmentValuesSpec Rows.segmentValuesRow=true:=by kernel_rfl
theorem nw:(λ(P:Program) (f:FuncId) (fn:Func) (s:ChangeSpec) (c:OpenClaim)=>((c.kinds==(if c.domain.isEmpty then[]else fn.params.toList.map λ t=>match P.underlying t with|some (.int k)=>some k|_=>none)))) prog 8 Tryz.f8 Rows.segmentValuesSpec Rows.segmentValuesRow=true:=by kernel_rfl
theorem ny:(λ(P:Program) (f:FuncId) (fn:Func) (s:ChangeSpec) (c:OpenClaim)=>((c.pinned==c.pinnedBy))) prog 8 Tryz.f8 Rows.segmentValuesSpec Rows.segmentValuesRow=true:=by kernel_rfl
theorem nz:(λ(P:Program) (f:FuncId) (fn:Func) (s:ChangeSpec) (c:OpenClaim)=>((c.veiled==(fn.params.toList++s.plain.varTypes P++fn.resultTypes.toList).any (P.veiledRec ·)))) prog 8 Tryz.f8 Rows.segmentValuesSpec Rows.segmentValuesRow=true:=by kernel_rfl
theorem nA:(λ(P:Program) (f:FuncId) (fn:Func) (s:ChangeSpec) (c:OpenClaim)=>(c.veiledFits P fn.params.toList (fn.params.toList++s.plain.varTypes P++fn.resultTypes.toList))) prog 8 Tryz.f8 Rows.segmentValuesSpec Rows.segmentValuesRow=true:=by kernel_rfl
theorem kH:joinedFacts prog 8 Tryz.f8 Rows.segmentValuesSpec Rows.segmentValuesRow=true:=(aw (aw (aw (aw (aw (aw (aw (aw (aw (aw (aw (aw (aw (aw (aw (aw (aw (aw (aw (aw (aw (aw (aw (aw (aw (aw (aw (aw (aw (aw (aw oG oH) oI) oJ) oK) oL) oM) oN) oO) oP) n2) n3) n4) n5) n9) na) nb) nc) ng) nh) ni) nj) nk) np) nq) nr) nt) nu) nw) ny) nz) nA)
end
