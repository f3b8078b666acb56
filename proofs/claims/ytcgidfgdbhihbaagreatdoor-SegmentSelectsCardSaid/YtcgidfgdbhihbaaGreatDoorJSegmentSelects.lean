/-The closed facts of the row of SegmentSelects,one by one. -/
import Derived.Test.YtcgidfgdbhihbaaGreatDoorLw
import Derived.Stop.Joined
set_option linter.all false
set_option maxRecDepth 100000
open Go.Proofs.Tryz
namespace Go.Proofs.YtcgidfgdbhihbaaGreatDoor
open Go.ChangeShapes Go.WideShapes Go.ChangeAt Go.RowKit Go.Kw
section
theorem az{a b:Bool}(h:a=true)(k:b=true):(a&&b)=true:=by rw[h,k];rfl
theorem oZ:(λ(P:Program) (f:FuncId) (fn:Func) (s:ChangeSpec) (c:OpenClaim)=>(c.wf (OpenSpec.ofChange s))) prog 3 Tryz.f3 Rows.segmentSelectsSpec Rows.segmentSelectsRow=true:=F
theorem pa:(λ(P:Program) (f:FuncId) (fn:Func) (s:ChangeSpec) (c:OpenClaim)=>(laidOutB P)) prog 3 Tryz.f3 Rows.segmentSelectsSpec Rows.segmentSelectsRow=true:=F
theorem pb:(λ(P:Program) (f:FuncId) (fn:Func) (s:ChangeSpec) (c:OpenClaim)=>(mapsRowed P)) prog 3 Tryz.f3 Rows.segmentSelectsSpec Rows.segmentSelectsRow=true:=F
theorem pc:(λ(P:Program) (f:FuncId) (fn:Func) (s:ChangeSpec) (c:OpenClaim)=>(fn.params.all (P.readableRec ·))) prog 3 Tryz.f3 Rows.segmentSelectsSpec Rows.segmentSelectsRow=true:=F
theorem pd:(λ(P:Program) (f:FuncId) (fn:Func) (s:ChangeSpec) (c:OpenClaim)=>(namedTie P c.named s.vars)) prog 3 Tryz.f3 Rows.segmentSelectsSpec Rows.segmentSelectsRow=true:=F
theorem pf:(λ(P:Program) (f:FuncId) (fn:Func) (s:ChangeSpec) (c:OpenClaim)=>(c.stops==[])) prog 3 Tryz.f3 Rows.segmentSelectsSpec Rows.segmentSelectsRow=true:=F
theorem pg:(λ(P:Program) (f:FuncId) (fn:Func) (s:ChangeSpec) (c:OpenClaim)=>(P.stops==[])) prog 3 Tryz.f3 Rows.segmentSelectsSpec Rows.segmentSelectsRow=true:=F
theorem ph:(λ(P:Program) (f:FuncId) (fn:Func) (s:ChangeSpec) (c:OpenClaim)=>(c.knobs==[])) prog 3 Tryz.f3 Rows.segmentSelectsSpec Rows.segmentSelectsRow=true:=F
theorem pj:(λ(P:Program) (f:FuncId) (fn:Func) (s:ChangeSpec) (c:OpenClaim)=>(P.stopKnobs==[])) prog 3 Tryz.f3 Rows.segmentSelectsSpec Rows.segmentSelectsRow=true:=F
theorem pn:(λ(P:Program) (f:FuncId) (fn:Func) (s:ChangeSpec) (c:OpenClaim)=>(c.inPlace==P.inPlace f)) prog 3 Tryz.f3 Rows.segmentSelectsSpec Rows.segmentSelectsRow=true:=F
theorem nO:(λ(P:Program) (f:FuncId) (fn:Func) (s:ChangeSpec) (c:OpenClaim)=>(c.unfollowed==P.unfollowed f)) prog 3 Tryz.f3 Rows.segmentSelectsSpec Rows.segmentSelectsRow=true:=F
theorem nP:(λ(P:Program) (f:FuncId) (fn:Func) (s:ChangeSpec) (c:OpenClaim)=>(c.recurses==P.recurses f)) prog 3 Tryz.f3 Rows.segmentSelectsSpec Rows.segmentSelectsRow=true:=F
theorem nQ:(λ(P:Program) (f:FuncId) (fn:Func) (s:ChangeSpec) (c:OpenClaim)=>(c.named==P.varsNamed f)) prog 3 Tryz.f3 Rows.segmentSelectsSpec Rows.segmentSelectsRow=true:=F
theorem nR:(λ(P:Program) (f:FuncId) (fn:Func) (s:ChangeSpec) (c:OpenClaim)=>(c.maps==(fn.params.toList++s.plain.varTypes P).any (P.mapsRec ·))) prog 3 Tryz.f3 Rows.segmentSelectsSpec Rows.segmentSelectsRow=true:=F
theorem nS:(λ(P:Program) (f:FuncId) (fn:Func) (s:ChangeSpec) (c:OpenClaim)=>(c.ifaces==(fn.params.toList++s.plain.varTypes P).any (P.ifacesRec ·))) prog 3 Tryz.f3 Rows.segmentSelectsSpec Rows.segmentSelectsRow=true:=F
theorem nT:(λ(P:Program) (f:FuncId) (fn:Func) (s:ChangeSpec) (c:OpenClaim)=>(c.mapsOut==P.mapsAmong fn.resultTypes.toList)) prog 3 Tryz.f3 Rows.segmentSelectsSpec Rows.segmentSelectsRow=true:=F
theorem nU:(λ(P:Program) (f:FuncId) (fn:Func) (s:ChangeSpec) (c:OpenClaim)=>(c.loops==(fn.params.toList++s.plain.varTypes P).any (P.loopsFrom ·))) prog 3 Tryz.f3 Rows.segmentSelectsSpec Rows.segmentSelectsRow=true:=F
theorem nW:(λ(P:Program) (f:FuncId) (fn:Func) (s:ChangeSpec) (c:OpenClaim)=>(c.wideKeys==(fn.params.toList++s.plain.varTypes P++fn.resultTypes.toList).any (P.wideKeysFrom ·))) prog 3 Tryz.f3 Rows.segmentSelectsSpec Rows.segmentSelectsRow=true:=F
theorem nX:(λ(P:Program) (f:FuncId) (fn:Func) (s:ChangeSpec) (c:OpenClaim)=>(s.vars.all (P.varReadable ·))) prog 3 Tryz.f3 Rows.segmentSelectsSpec Rows.segmentSelectsRow=true:=F
theorem nY:(λ(P:Program) (f:FuncId) (fn:Func) (s:ChangeSpec) (c:OpenClaim)=>(fn.resultTypes.all (λ t=>P.readableRec t&&decide (t<P.types.size)))) prog 3 Tryz.f3 Rows.segmentSelectsSpec Rows.segmentSelectsRow=true:=F
theorem nZ:(λ(P:Program) (f:FuncId) (fn:Func) (s:ChangeSpec) (c:OpenClaim)=>(c.ifacesOut==fn.resultTypes.toList.any (P.ifacesRec ·))) prog 3 Tryz.f3 Rows.segmentSelectsSpec Rows.segmentSelectsRow=true:=F
theorem o0:(λ(P:Program) (f:FuncId) (fn:Func) (s:ChangeSpec) (c:OpenClaim)=>(c.loopsOut==fn.resultTypes.toList.any (P.loopsFrom ·))) prog 3 Tryz.f3 Rows.segmentSelectsSpec Rows.segmentSelectsRow=true:=F
theorem o3:(λ(P:Program) (f:FuncId) (fn:Func) (s:ChangeSpec) (c:OpenClaim)=>(c.plainKeys==P.plainKeys)) prog 3 Tryz.f3 Rows.segmentSelectsSpec Rows.segmentSelectsRow=true:=F
theorem o4:(λ(P:Program) (f:FuncId) (fn:Func) (s:ChangeSpec) (c:OpenClaim)=>c.shortTexts.isNone) prog 3 Tryz.f3 Rows.segmentSelectsSpec Rows.segmentSelectsRow=true:=F
theorem o5:(λ(P:Program) (f:FuncId) (fn:Func) (s:ChangeSpec) (c:OpenClaim)=>P.stopsHeard) prog 3 Tryz.f3 Rows.segmentSelectsSpec Rows.segmentSelectsRow=true:=F
theorem o6:(λ(P:Program) (f:FuncId) (fn:Func) (s:ChangeSpec) (c:OpenClaim)=>P.mayEnter) prog 3 Tryz.f3 Rows.segmentSelectsSpec Rows.segmentSelectsRow=true:=F
theorem o7:(λ(P:Program) (f:FuncId) (fn:Func) (s:ChangeSpec) (c:OpenClaim)=>(c.lifted==P.liftsFinal)) prog 3 Tryz.f3 Rows.segmentSelectsSpec Rows.segmentSelectsRow=true:=F
theorem o8:(λ(P:Program) (f:FuncId) (fn:Func) (s:ChangeSpec) (c:OpenClaim)=>(P.make==some c.make)) prog 3 Tryz.f3 Rows.segmentSelectsSpec Rows.segmentSelectsRow=true:=F
theorem o9:(λ(P:Program) (f:FuncId) (fn:Func) (s:ChangeSpec) (c:OpenClaim)=>(c.kinds==(if c.domain.isEmpty then[]else fn.params.toList.map λ t=>match P.underlying t with|some (.int k)=>some k|_=>none))) prog 3 Tryz.f3 Rows.segmentSelectsSpec Rows.segmentSelectsRow=true:=F
theorem oa:(λ(P:Program) (f:FuncId) (fn:Func) (s:ChangeSpec) (c:OpenClaim)=>(c.pinned==c.pinnedBy)) prog 3 Tryz.f3 Rows.segmentSelectsSpec Rows.segmentSelectsRow=true:=F
theorem oe:(λ(P:Program) (f:FuncId) (fn:Func) (s:ChangeSpec) (c:OpenClaim)=>(c.veiled==(fn.params.toList++s.plain.varTypes P++fn.resultTypes.toList).any (P.veiledRec ·))) prog 3 Tryz.f3 Rows.segmentSelectsSpec Rows.segmentSelectsRow=true:=F
theorem og:(λ(P:Program) (f:FuncId) (fn:Func) (s:ChangeSpec) (c:OpenClaim)=>(c.veiledFits P fn.params.toList (fn.params.toList++s.plain.varTypes P++fn.resultTypes.toList))) prog 3 Tryz.f3 Rows.segmentSelectsSpec Rows.segmentSelectsRow=true:=F
theorem lE:joinedFacts prog 3 Tryz.f3 Rows.segmentSelectsSpec Rows.segmentSelectsRow=true:=(az (az (az (az (az (az (az (az (az (az (az (az (az (az (az (az (az (az (az (az (az (az (az (az (az (az (az (az (az (az (az oZ pa) pb) pc) pd) pf) pg) ph) pj) pn) nO) nP) nQ) nR) nS) nT) nU) nW) nX) nY) nZ) o0) o3) o4) o5) o6) o7) o8) o9) oa) oe) og)
end
