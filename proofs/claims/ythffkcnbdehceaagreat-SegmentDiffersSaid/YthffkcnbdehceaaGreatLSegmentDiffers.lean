/-What is proved:for every input,SegmentDiffers returns true and leaves its arguments as they were:corpora that are made from any two lists of integers have the same bytes exactly if they are equal. No condition. -/
import Derived.Test.YthffkcnbdehceaaGreatLw
import Derived.Test.YthffkcnbdehceaaGreatJSegmentDiffers
import Derived.Test.YthffkcnbdehceaaGreatF41l
open Go.Proofs.Tryz
set_option linter.unusedVariables false
set_option linter.unusedSimpArgs false
set_option linter.unusedSectionVars false
namespace Go.Proofs.YthffkcnbdehceaaGreat
open Go.ChangeShapes Go.WideShapes Go.ChangeAt Go.RowKit Go.Kw
set_option maxRecDepth 100000 in
theorem jv (os:Os) (started:os.Started) (H:Type) (enc:TypeId×Value->H):
  ReturnsInHanded {} Tryz.checked os 5 .any (Rows.segmentDiffersSpec.pre6 enc prog Tryz.f5 Rows.segmentDiffersRow.domain false) (Rows.segmentDiffersSpec.post enc prog Tryz.f5 false true false false):=by
 refine returnsInHanded_of_change (C:=Tryz.checked) tC started (by kernel_rfl) func5
  (ChangeSpec.witness6 (enc:=enc) (C:=Tryz.checked) false ⟨#[],#[.slice none 0 0,.slice none 0 0],[]⟩ 8 (by kernel_rfl) (by kernel_rfl) (by kernel_rfl) (by kernel_rfl)) ?_
 intro W base args ds gs before hval0 hW hcnd _
 have hval:∀ (j:Nat) t v,Tryz.f5.params[j]? =some t->args[j]? =some v->Value.okWide prog W .any base t v:=hval0
 have hW':=hW
 obtain ⟨p,q,hA0,hV,rfl,hfz,hnd⟩:=hW
 have hA:DataW.TrodAll enc prog W 0 (λ _=>true) true Tryz.f5.params.toList args.toList ds p:=hA0
 rw [params5] at hA hval
 obtain ⟨v0,v1,d0,d1,p0,p1,rfl,rfl,rfl,h0,h1⟩:=trodAll_two hA
 obtain ⟨rfl,rfl⟩:=trodVars_none hV
 have hlt:∀ x∈p0++p1,x.block<W.heap.size:=λ x hx=>by simpa using hW'.lt x (by simpa using hx)
 obtain ⟨z0,r0⟩:=rD (hval 0 22 v0 rfl rfl) h0
 obtain ⟨z1,r1⟩:=rD (hval 1 22 v1 rfl rfl) h1
 simp only [List.append_nil] at hW'
 refine Calls.mono (AU v0 v1 z0 z1 W r0 r1) λ e W' he=> ?_
 obtain ⟨r,rfl,rfl,hS⟩:=he
 have hbelow:=hS.old
 exact ⟨_,rfl,_,_,_,[],_,[],hW',trodAll_mk1 (shut_bool underlying4 true),trodAll_mk2 (Below.trod gl (by kernel_rfl) (of_decide_eq_true (by kernel_rfl)) h0 hbelow (λ x hx=>hlt x (by simp [hx]))) (Below.trod gl (by kernel_rfl) (of_decide_eq_true (by kernel_rfl)) h1 hbelow (λ x hx=>hlt x (by simp [hx]))),rfl,hbelow.frame _,λ h=>by cases h⟩
theorem segmentDiffers_holds:Rows.SegmentDiffersSaid:=
 OpenClaim.holds_of_wide 5 Tryz.f5 rfl rfl rfl rfl rfl rfl rfl ⟨rfl,rfl,rfl,rfl,rfl⟩ rfl rfl rfl rfl rfl (by kernel_rfl) func5 js
  (of_decide_eq_true (by kernel_rfl)) (by unfold Func.isWrapper;first|(rw [if_pos (by decide+kernel)];kernel_rfl)|(rw [if_neg (by decide+kernel)];exact ⟨rfl,rfl⟩))
  (λ os started H enc _=>jv os started H enc)
#print axioms segmentDiffers_holds
end Go.Proofs.YthffkcnbdehceaaGreat
