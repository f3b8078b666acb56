/-What is proved:for every input,SegmentBack returns true and leaves its arguments as they were:the bytes of a corpus that is made from any list of integers are decoded,and opened,as this corpus. No condition. -/
import Derived.Test.YthffkcnbdehceaaGreatLw
import Derived.Test.YthffkcnbdehceaaGreatJSegmentBack
import Derived.Test.YthffkcnbdehceaaGreatF41q
open Go.Proofs.Tryz
set_option linter.unusedVariables false
set_option linter.unusedSimpArgs false
set_option linter.unusedSectionVars false
namespace Go.Proofs.YthffkcnbdehceaaGreat
open Go.ChangeShapes Go.WideShapes Go.ChangeAt Go.RowKit Go.Kw
set_option maxRecDepth 100000 in
theorem ma (os:Os) (started:os.Started) (H:Type) (enc:TypeId×Value->H):
  ReturnsInHanded {} Tryz.checked os 7 .any (Rows.segmentBackSpec.pre6 enc prog Tryz.f7 Rows.segmentBackRow.domain false) (Rows.segmentBackSpec.post enc prog Tryz.f7 false true false false):=by
 refine returnsInHanded_of_change (C:=Tryz.checked) tC started (by kernel_rfl) func7
  (ChangeSpec.witness6 (enc:=enc) (C:=Tryz.checked) false ⟨#[],#[.slice none 0 0],[]⟩ 8 (by kernel_rfl) (by kernel_rfl) (by kernel_rfl) (by kernel_rfl)) ?_
 intro W base args ds gs before hval0 hW hcnd _
 have hval:∀ (j:Nat) t v,Tryz.f7.params[j]? =some t->args[j]? =some v->Value.okWide prog W .any base t v:=hval0
 have hW':=hW
 obtain ⟨p,q,hA0,hV,rfl,hfz,hnd⟩:=hW
 have hA:DataW.TrodAll enc prog W 0 (λ _=>true) true Tryz.f7.params.toList args.toList ds p:=hA0
 rw [params7] at hA hval
 obtain ⟨v0,d0,rfl,rfl,h0⟩:=trodAll_one hA
 obtain ⟨rfl,rfl⟩:=trodVars_none hV
 have hlt:∀ x∈p,x.block<W.heap.size:=λ x hx=>by simpa using hW'.lt x (by simpa using hx)
 obtain ⟨z0,r0⟩:=rD (hval 0 22 v0 rfl rfl) h0
 simp only [List.append_nil] at hW'
 refine Calls.mono (J8 v0 z0 W r0) λ e W' he=> ?_
 obtain ⟨r,rfl,rfl,hS⟩:=he
 have hbelow:=hS.old
 exact ⟨_,rfl,_,_,_,[],_,[],hW',trodAll_mk1 (shut_bool underlying4 true),trodAll_mk1 (Below.trod gl (by kernel_rfl) (of_decide_eq_true (by kernel_rfl)) h0 hbelow (λ x hx=>hlt x (by simp [hx]))),rfl,hbelow.frame _,λ h=>by cases h⟩
theorem segmentBack_holds:Rows.SegmentBackSaid:=
 OpenClaim.holds_of_wide 7 Tryz.f7 rfl rfl rfl rfl rfl rfl rfl ⟨rfl,rfl,rfl,rfl,rfl⟩ rfl rfl rfl rfl rfl (by kernel_rfl) func7 lz
  (of_decide_eq_true (by kernel_rfl)) (by unfold Func.isWrapper;first|(rw [if_pos (by decide+kernel)];kernel_rfl)|(rw [if_neg (by decide+kernel)];exact ⟨rfl,rfl⟩))
  (λ os started H enc _=>ma os started H enc)
#print axioms segmentBack_holds
end Go.Proofs.YthffkcnbdehceaaGreat
