/-What is proved:for every input,SegmentValues returns true and leaves its arguments as they were:Value,Words and Tokens of an opened segment tell the values of the corpus. No condition. -/
import Derived.Test.YthffkcnbdehceaaGreatLw
import Derived.Test.YthffkcnbdehceaaGreatJSegmentValues
import Derived.Test.YthffkcnbdehceaaGreatF41g
set_option linter.all false
open Go.Proofs.Tryz
namespace Go.Proofs.YthffkcnbdehceaaGreat
open Go.ChangeShapes Go.WideShapes Go.ChangeAt Go.RowKit Go.Kw
set_option maxRecDepth 100000 in
theorem kP(os:Os)(started:os.Started)(H:Type)(enc:TypeId×Value->H):
  ReturnsInHanded {} Tryz.checked os 8 .any (Rows.segmentValuesSpec.pre6 enc prog Tryz.f8 Rows.segmentValuesRow.domain false) (Rows.segmentValuesSpec.post enc prog Tryz.f8 false true false false):=by
 refine returnsInHanded_of_change (C:=Tryz.checked) H8 started (by kernel_rfl) func8
  (ChangeSpec.witness6 (enc:=enc) (C:=Tryz.checked) false ⟨#[],#[.slice none 0 0,.int .i64 0,.int .i64 0],[]⟩ 8 (by kernel_rfl) (by kernel_rfl) (by kernel_rfl) (by kernel_rfl)) ?_
 intro W base args ds gs before hval0 hW hcnd _;have hval:∀ (j:Nat) t v,Tryz.f8.params[j]? =some t->args[j]? =some v->Value.okWide prog W .any base t v:=hval0;have hW':=hW;obtain⟨p,q,hA0,hV,rfl,hfz,hnd⟩:=hW;have hA:DataW.TrodAll enc prog W 0 (λ _=>true) true Tryz.f8.params.toList args.toList ds p:=hA0;rw[params8]at hA hval;obtain⟨v0,v1,v2,d0,d1,d2,p0,p1,p2,rfl,rfl,rfl,h0,h1,h2⟩:=trodAll_three hA;obtain⟨rfl,rfl⟩:=trodVars_none hV;have hlt:∀ x∈p0++p1++p2,x.block<W.heap.size:=λ x hx=>by simpa using hW'.lt x (by simpa using hx)
 obtain⟨z0,r0⟩:=Kz (hval 0 22 v0 Y Y) h0;obtain⟨a1,rfl,_,_,wa1⟩:=open_int underlying3 (hval 1 3 v1 Y Y) h1;obtain⟨a2,rfl,_,_,wa2⟩:=open_int underlying3 (hval 2 3 v2 Y Y) h2;simp only[List.append_nil]at hW';refine Tr (Er v0 z0 a1 a2 W r0) λ e W' he=>?_;obtain⟨r,rfl,rfl,hS⟩:=he;have hbelow:=hS.old;exact⟨_,Y,_,_,_,[],_,[],hW',trodAll_mk1 (shut_bool underlying4 true),trodAll_mk3 (Below.trod pc (by kernel_rfl) (Sw (by kernel_rfl)) h0 hbelow (λ x hx=>hlt x (by simp[hx]))) (Below.trod pc (by kernel_rfl) (Sw (by kernel_rfl)) h1 hbelow (λ x hx=>hlt x (by simp[hx]))) (Below.trod pc (by kernel_rfl) (Sw (by kernel_rfl)) h2 hbelow (λ x hx=>hlt x (by simp[hx]))),Y,hbelow.frame _,λ h=>by cases h⟩
theorem segmentValues_holds:Rows.SegmentValuesSaid:=
 OpenClaim.holds_of_wide 8 Tryz.f8 Y Y Y Y Y Y Y ⟨Y,Y,Y,Y,Y⟩ Y Y Y Y Y (by kernel_rfl) func8 kH
  (Sw (by kernel_rfl)) (by unfold Func.isWrapper;first|(rw[No (by decide+kernel)];kernel_rfl)|(rw[M2 (by decide+kernel)];exact⟨Y,Y⟩))
  (λ os started H enc _=>kP os started H enc)
#print axioms segmentValues_holds
