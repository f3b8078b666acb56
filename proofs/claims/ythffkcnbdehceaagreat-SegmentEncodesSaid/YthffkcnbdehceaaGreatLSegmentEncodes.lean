/-What is proved:for every input,SegmentEncodes returns true and leaves its arguments as they were:the encoding of a corpus that is made from any list of integers is that of the reference. No condition. -/
import Derived.Test.YthffkcnbdehceaaGreatLw
import Derived.Test.YthffkcnbdehceaaGreatJSegmentEncodes
import Derived.Test.YthffkcnbdehceaaGreatF41v
open Go.Proofs.Tryz
set_option linter.unusedVariables false
set_option linter.unusedSimpArgs false
set_option linter.unusedSectionVars false
namespace Go.Proofs.YthffkcnbdehceaaGreat
open Go.ChangeShapes Go.WideShapes Go.ChangeAt Go.RowKit Go.Kw
set_option maxRecDepth 100000 in
theorem jI (os:Os) (started:os.Started) (H:Type) (enc:TypeId×Value->H):
  ReturnsInHanded {} Tryz.checked os 3 .any (Rows.segmentEncodesSpec.pre6 enc prog Tryz.f3 Rows.segmentEncodesRow.domain false) (Rows.segmentEncodesSpec.post enc prog Tryz.f3 false true false false):=by
 refine returnsInHanded_of_change (C:=Tryz.checked) Fy started (by kernel_rfl) func3
  (ChangeSpec.witness6 (enc:=enc) (C:=Tryz.checked) false ⟨#[],#[.slice none 0 0],[]⟩ 8 (by kernel_rfl) (by kernel_rfl) (by kernel_rfl) (by kernel_rfl)) ?_
 intro W base args ds gs before hval0 hW hcnd _
 have hval:∀ (j:Nat) t v,Tryz.f3.params[j]? =some t->args[j]? =some v->Value.okWide prog W .any base t v:=hval0
 have hW':=hW
 obtain ⟨p,q,hA0,hV,rfl,hfz,hnd⟩:=hW
 have hA:DataW.TrodAll enc prog W 0 (λ _=>true) true Tryz.f3.params.toList args.toList ds p:=hA0
 rw [params3] at hA hval
 obtain ⟨v0,d0,rfl,rfl,h0⟩:=trodAll_one hA
 obtain ⟨rfl,rfl⟩:=trodVars_none hV
 have hlt:∀ x∈p,x.block<W.heap.size:=λ x hx=>by simpa using hW'.lt x (by simpa using hx)
 obtain ⟨z0,r0⟩:=J0 (hval 0 22 v0 rfl rfl) h0
 simp only [List.append_nil] at hW'
 refine Rg (zR v0 z0 W r0) λ e W' he=> ?_
 obtain ⟨r,rfl,rfl,hS⟩:=he
 have hbelow:=hS.old
 exact ⟨_,rfl,_,_,_,[],_,[],hW',trodAll_mk1 (shut_bool underlying4 true),trodAll_mk1 (Below.trod Dp (by kernel_rfl) (Qw (by kernel_rfl)) h0 hbelow (λ x hx=>hlt x (by simp [hx]))),rfl,hbelow.frame _,λ h=>by cases h⟩
theorem segmentEncodes_holds:Rows.SegmentEncodesSaid:=
 OpenClaim.holds_of_wide 3 Tryz.f3 rfl rfl rfl rfl rfl rfl rfl ⟨rfl,rfl,rfl,rfl,rfl⟩ rfl rfl rfl rfl rfl (by kernel_rfl) func3 jE
  (Qw (by kernel_rfl)) (by unfold Func.isWrapper;first|(rw [PI (by decide+kernel)];kernel_rfl)|(rw [M2 (by decide+kernel)];exact ⟨rfl,rfl⟩))
  (λ os started H enc _=>jI os started H enc)
#print axioms segmentEncodes_holds
end Go.Proofs.YthffkcnbdehceaaGreat
