/-The closed facts of the row of SegmentDamage,one by one. -/
import Derived.Test.YthffkcnbdehceaaGreatLw
open Go.Proofs.Tryz
set_option linter.unusedVariables false
set_option linter.unusedSimpArgs false
set_option linter.unusedSectionVars false
namespace Go.Proofs.YthffkcnbdehceaaGreat
open Go.ChangeShapes Go.WideShapes Go.ChangeAt Go.RowKit Go.Kw
set_option maxRecDepth 100000
section
theorem ar {a b:Bool} (h:a=true) (k:b=true):(a&&b)=true:=by rw [h,k];rfl
theorem oP:(λ (P:Program) (f:FuncId) (fn:Func) (s:ChangeSpec) (c:OpenClaim)=>(c.wf (OpenSpec.ofChange s))) prog 6 Tryz.f6 Rows.segmentDamageSpec Rows.segmentDamageRow=true:=by kernel_rfl
theorem oQ:(λ (P:Program) (f:FuncId) (fn:Func) (s:ChangeSpec) (c:OpenClaim)=>(laidOutB P)) prog 6 Tryz.f6 Rows.segmentDamageSpec Rows.segmentDamageRow=true:=by kernel_rfl
theorem oR:(λ (P:Program) (f:FuncId) (fn:Func) (s:ChangeSpec) (c:OpenClaim)=>(mapsRowed P)) prog 6 Tryz.f6 Rows.segmentDamageSpec Rows.segmentDamageRow=true:=by kernel_rfl
theorem oS:(λ (P:Program) (f:FuncId) (fn:Func) (s:ChangeSpec) (c:OpenClaim)=>(fn.params.all (P.readableRec ·))) prog 6 Tryz.f6 Rows.segmentDamageSpec Rows.segmentDamageRow=true:=by kernel_rfl
theorem oT:(λ (P:Program) (f:FuncId) (fn:Func) (s:ChangeSpec) (c:OpenClaim)=>(namedTie P c.named s.vars)) prog 6 Tryz.f6 Rows.segmentDamageSpec Rows.segmentDamageRow=true:=by kernel_rfl
theorem oU:(λ (P:Program) (f:FuncId) (fn:Func) (s:ChangeSpec) (c:OpenClaim)=>((c.stops==[]))) prog 6 Tryz.f6 Rows.segmentDamageSpec Rows.segmentDamageRow=true:=by kernel_rfl
theorem oV:(λ (P:Program) (f:FuncId) (fn:Func) (s:ChangeSpec) (c:OpenClaim)=>((P.stops==[]))) prog 6 Tryz.f6 Rows.segmentDamageSpec Rows.segmentDamageRow=true:=by kernel_rfl
theorem oW:(λ (P:Program) (f:FuncId) (fn:Func) (s:ChangeSpec) (c:OpenClaim)=>((c.knobs==[]))) prog 6 Tryz.f6 Rows.segmentDamageSpec Rows.segmentDamageRow=true:=by kernel_rfl
theorem oX:(λ (P:Program) (f:FuncId) (fn:Func) (s:ChangeSpec) (c:OpenClaim)=>((P.stopKnobs==[]))) prog 6 Tryz.f6 Rows.segmentDamageSpec Rows.segmentDamageRow=true:=by kernel_rfl
theorem oY:(λ (P:Program) (f:FuncId) (fn:Func) (s:ChangeSpec) (c:OpenClaim)=>((c.inPlace==P.inPlace f))) prog 6 Tryz.f6 Rows.segmentDamageSpec Rows.segmentDamageRow=true:=by kernel_rfl
theorem mK:(λ (P:Program) (f:FuncId) (fn:Func) (s:ChangeSpec) (c:OpenClaim)=>((c.unfollowed==P.unfollowed f))) prog 6 Tryz.f6 Rows.segmentDamageSpec Rows.segmentDamageRow=true:=by kernel_rfl
theorem mL:(λ (P:Program) (f:FuncId) (fn:Func) (s:ChangeSpec) (c:OpenClaim)=>((c.recurses==P.recurses f))) prog 6 Tryz.f6 Rows.segmentDamageSpec Rows.segmentDamageRow=true:=by kernel_rfl
theorem mM:(λ (P:Program) (f:FuncId) (fn:Func) (s:ChangeSpec) (c:OpenClaim)=>((c.named==P.varsNamed f))) prog 6 Tryz.f6 Rows.segmentDamageSpec Rows.segmentDamageRow=true:=by kernel_rfl
theorem mN:(λ (P:Program) (f:FuncId) (fn:Func) (s:ChangeSpec) (c:OpenClaim)=>((c.maps==(fn.params.toList++s.plain.varTypes P).any (P.mapsRec ·)))) prog 6 Tryz.f6 Rows.segmentDamageSpec Rows.segmentDamageRow=true:=by kernel_rfl
theorem mO:(λ (P:Program) (f:FuncId) (fn:Func) (s:ChangeSpec) (c:OpenClaim)=>((c.ifaces==(fn.params.toList++s.plain.varTypes P).any (P.ifacesRec ·)))) prog 6 Tryz.f6 Rows.segmentDamageSpec Rows.segmentDamageRow=true:=by kernel_rfl
theorem mP:(λ (P:Program) (f:FuncId) (fn:Func) (s:ChangeSpec) (c:OpenClaim)=>((c.mapsOut==P.mapsAmong fn.resultTypes.toList))) prog 6 Tryz.f6 Rows.segmentDamageSpec Rows.segmentDamageRow=true:=by kernel_rfl
theorem mQ:(λ (P:Program) (f:FuncId) (fn:Func) (s:ChangeSpec) (c:OpenClaim)=>((c.loops==(fn.params.toList++s.plain.varTypes P).any (P.loopsFrom ·)))) prog 6 Tryz.f6 Rows.segmentDamageSpec Rows.segmentDamageRow=true:=by kernel_rfl
theorem mR:(λ (P:Program) (f:FuncId) (fn:Func) (s:ChangeSpec) (c:OpenClaim)=>((c.wideKeys==(fn.params.toList++s.plain.varTypes P++fn.resultTypes.toList).any (P.wideKeysFrom ·)))) prog 6 Tryz.f6 Rows.segmentDamageSpec Rows.segmentDamageRow=true:=by kernel_rfl
theorem mS:(λ (P:Program) (f:FuncId) (fn:Func) (s:ChangeSpec) (c:OpenClaim)=>(s.vars.all (P.varReadable ·))) prog 6 Tryz.f6 Rows.segmentDamageSpec Rows.segmentDamageRow=true:=by kernel_rfl
theorem mT:(λ (P:Program) (f:FuncId) (fn:Func) (s:ChangeSpec) (c:OpenClaim)=>(fn.resultTypes.all (λ t=>P.readableRec t&&decide (t<P.types.size)))) prog 6 Tryz.f6 Rows.segmentDamageSpec Rows.segmentDamageRow=true:=by kernel_rfl
theorem mU:(λ (P:Program) (f:FuncId) (fn:Func) (s:ChangeSpec) (c:OpenClaim)=>((c.ifacesOut==fn.resultTypes.toList.any (P.ifacesRec ·)))) prog 6 Tryz.f6 Rows.segmentDamageSpec Rows.segmentDamageRow=true:=by kernel_rfl
theorem mV:(λ (P:Program) (f:FuncId) (fn:Func) (s:ChangeSpec) (c:OpenClaim)=>((c.loopsOut==fn.resultTypes.toList.any (P.loopsFrom ·)))) prog 6 Tryz.f6 Rows.segmentDamageSpec Rows.segmentDamageRow=true:=by kernel_rfl
theorem mW:(λ (P:Program) (f:FuncId) (fn:Func) (s:ChangeSpec) (c:OpenClaim)=>((c.plainKeys==P.plainKeys))) prog 6 Tryz.f6 Rows.segmentDamageSpec Rows.segmentDamageRow=true:=by kernel_rfl
theorem mX:(λ (P:Program) (f:FuncId) (fn:Func) (s:ChangeSpec) (c:OpenClaim)=>(c.shortTexts.isNone)) prog 6 Tryz.f6 Rows.segmentDamageSpec Rows.segmentDamageRow=true:=by kernel_rfl
theorem mY:(λ (P:Program) (f:FuncId) (fn:Func) (s:ChangeSpec) (c:OpenClaim)=>(P.stopsHeard)) prog 6 Tryz.f6 Rows.segmentDamageSpec Rows.segmentDamageRow=true:=by kernel_rfl
theorem mZ:(λ (P:Program) (f:FuncId) (fn:Func) (s:ChangeSpec) (c:OpenClaim)=>(P.mayEnter)) prog 6 Tryz.f6 Rows.segmentDamageSpec Rows.segmentDamageRow=true:=by kernel_rfl
theorem n0:(λ (P:Program) (f:FuncId) (fn:Func) (s:ChangeSpec) (c:OpenClaim)=>((c.lifted==P.liftsFinal))) prog 6 Tryz.f6 Rows.segmentDamageSpec Rows.segmentDamageRow=true:=by kernel_rfl
theorem n1:(λ (P:Program) (f:FuncId) (fn:Func) (s:ChangeSpec) (c:OpenClaim)=>((P.make==some c.make))) prog 6 Tryz.f6 Rows.segmentDamageSpec Rows.segmentDamageRow=true:=by kernel_rfl
theorem n2:(λ (P:Program) (f:FuncId) (fn:Func) (s:ChangeSpec) (c:OpenClaim)=>((c.kinds==(if c.domain.isEmpty then [] else fn.params.toList.map λ t=>match P.underlying t with|some (.int k)=>some k|_=>none)))) prog 6 Tryz.f6 Rows.segmentDamageSpec Rows.segmentDamageRow=true:=by kernel_rfl
theorem n3:(λ (P:Program) (f:FuncId) (fn:Func) (s:ChangeSpec) (c:OpenClaim)=>((c.pinned==c.pinnedBy))) prog 6 Tryz.f6 Rows.segmentDamageSpec Rows.segmentDamageRow=true:=by kernel_rfl
theorem n4:(λ (P:Program) (f:FuncId) (fn:Func) (s:ChangeSpec) (c:OpenClaim)=>((c.veiled==(fn.params.toList++s.plain.varTypes P++fn.resultTypes.toList).any (P.veiledRec ·)))) prog 6 Tryz.f6 Rows.segmentDamageSpec Rows.segmentDamageRow=true:=by kernel_rfl
theorem n5:(λ (P:Program) (f:FuncId) (fn:Func) (s:ChangeSpec) (c:OpenClaim)=>(c.veiledFits P fn.params.toList (fn.params.toList++s.plain.varTypes P++fn.resultTypes.toList))) prog 6 Tryz.f6 Rows.segmentDamageSpec Rows.segmentDamageRow=true:=by kernel_rfl
theorem jD:joinedFacts prog 6 Tryz.f6 Rows.segmentDamageSpec Rows.segmentDamageRow=true:=(ar (ar (ar (ar (ar (ar (ar (ar (ar (ar (ar (ar (ar (ar (ar (ar (ar (ar (ar (ar (ar (ar (ar (ar (ar (ar (ar (ar (ar (ar (ar oP oQ) oR) oS) oT) oU) oV) oW) oX) oY) mK) mL) mM) mN) mO) mP) mQ) mR) mS) mT) mU) mV) mW) mX) mY) mZ) n0) n1) n2) n3) n4) n5)
end
end Go.Proofs.YthffkcnbdehceaaGreat
