/-What is proved:for every input,SegmentDamage returns true and leaves its arguments as they were:the bytes of a corpus of which one is changed,that are cut off,or that are longer,are refused. No condition. -/
import Derived.Test.YthffkcnbdehceaaGreatLw
import Derived.Test.YthffkcnbdehceaaGreatJSegmentDamage
import Derived.Test.YthffkcnbdehceaaGreatF41z
open Go.Proofs.Tryz
set_option linter.unusedVariables false
set_option linter.unusedSimpArgs false
set_option linter.unusedSectionVars false
namespace Go.Proofs.YthffkcnbdehceaaGreat
open Go.ChangeShapes Go.WideShapes Go.ChangeAt Go.RowKit Go.Kw
set_option maxRecDepth 100000 in
theorem jL (os:Os) (started:os.Started) (H:Type) (enc:TypeId×Value->H):
  ReturnsInHanded {} Tryz.checked os 6 .any (Rows.segmentDamageSpec.pre6 enc prog Tryz.f6 Rows.segmentDamageRow.domain false) (Rows.segmentDamageSpec.post enc prog Tryz.f6 false true false false):=by
 refine returnsInHanded_of_change (C:=Tryz.checked) tC started (by kernel_rfl) func6
  (ChangeSpec.witness6 (enc:=enc) (C:=Tryz.checked) false ⟨#[],#[.slice none 0 0,.int .i64 0,.int .u8 0],[]⟩ 8 (by kernel_rfl) (by kernel_rfl) (by kernel_rfl) (by kernel_rfl)) ?_
 intro W base args ds gs before hval0 hW hcnd _
 have hval:∀ (j:Nat) t v,Tryz.f6.params[j]? =some t->args[j]? =some v->Value.okWide prog W .any base t v:=hval0
 have hW':=hW
 obtain ⟨p,q,hA0,hV,rfl,hfz,hnd⟩:=hW
 have hA:DataW.TrodAll enc prog W 0 (λ _=>true) true Tryz.f6.params.toList args.toList ds p:=hA0
 rw [params6] at hA hval
 obtain ⟨v0,v1,v2,d0,d1,d2,p0,p1,p2,rfl,rfl,rfl,h0,h1,h2⟩:=trodAll_three hA
 obtain ⟨rfl,rfl⟩:=trodVars_none hV
 have hlt:∀ x∈p0++p1++p2,x.block<W.heap.size:=λ x hx=>by simpa using hW'.lt x (by simpa using hx)
 obtain ⟨z0,r0⟩:=rD (hval 0 22 v0 rfl rfl) h0
 obtain ⟨a1,rfl,_,_,wa1⟩:=open_int underlying3 (hval 1 3 v1 rfl rfl) h1
 obtain ⟨z2,rfl,_,_,wz2⟩:=open_int underlying5 (hval 2 5 v2 rfl rfl) h2
 obtain ⟨a2,rfl,wa2⟩:=Jb wz2
 simp only [List.append_nil] at hW'
 refine Calls.mono (DS v0 z0 a1 a2 W r0 wa2) λ e W' he=> ?_
 obtain ⟨r,rfl,rfl,hS⟩:=he
 have hbelow:=hS.old
 exact ⟨_,rfl,_,_,_,[],_,[],hW',trodAll_mk1 (shut_bool underlying4 true),trodAll_mk3 (Below.trod gl (by kernel_rfl) (of_decide_eq_true (by kernel_rfl)) h0 hbelow (λ x hx=>hlt x (by simp [hx]))) (Below.trod gl (by kernel_rfl) (of_decide_eq_true (by kernel_rfl)) h1 hbelow (λ x hx=>hlt x (by simp [hx]))) (Below.trod gl (by kernel_rfl) (of_decide_eq_true (by kernel_rfl)) h2 hbelow (λ x hx=>hlt x (by simp [hx]))),rfl,hbelow.frame _,λ h=>by cases h⟩
theorem segmentDamage_holds:Rows.SegmentDamageSaid:=
 OpenClaim.holds_of_wide 6 Tryz.f6 rfl rfl rfl rfl rfl rfl rfl ⟨rfl,rfl,rfl,rfl,rfl⟩ rfl rfl rfl rfl rfl (by kernel_rfl) func6 jD
  (of_decide_eq_true (by kernel_rfl)) (by unfold Func.isWrapper;first|(rw [if_pos (by decide+kernel)];kernel_rfl)|(rw [if_neg (by decide+kernel)];exact ⟨rfl,rfl⟩))
  (λ os started H enc _=>jL os started H enc)
#print axioms segmentDamage_holds
end Go.Proofs.YthffkcnbdehceaaGreat
