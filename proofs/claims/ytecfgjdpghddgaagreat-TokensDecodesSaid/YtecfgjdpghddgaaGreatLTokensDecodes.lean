/- What is proved: for every input, TokensDecodes returns true and leaves its arguments as they were: which bytes are decoded, and as which stream, as in the reference. No condition. -/
import Derived.Test.YtecfgjdpghddgaaGreatLb
import Derived.Test.YtecfgjdpghddgaaGreatJTokensDecodes
import Derived.Test.YtecfgjdpghddgaaGreatF07d
set_option linter.unusedVariables false
set_option linter.unusedSimpArgs false
set_option linter.unusedSectionVars false
namespace Go.Proofs.YtecfgjdpghddgaaGreat
open Go.ChangeShapes Go.WideShapes Go.ChangeAt Go.RowKit Go.Kw
set_option maxRecDepth 100000 in
theorem tokensDecodes_lifted (os : Os) (started : os.Started) (H : Type) (enc : TypeId × Value → H) :
    ReturnsInHanded {} Tryz.checked os 3 .any (Rows.tokensDecodesSpec.pre6 enc Tryz.prog Tryz.f3 Rows.tokensDecodesRow.domain false) (Rows.tokensDecodesSpec.post enc Tryz.prog Tryz.f3 false true false false) := by
  refine returnsInHanded_of_change (C := Tryz.checked) own_Tryz started (by kernel_rfl) Tryz.func3
    (ChangeSpec.witness6 (enc := enc) (C := Tryz.checked) false ⟨#[], #[.slice none 0 0], []⟩ 8 (by kernel_rfl) (by kernel_rfl) (by kernel_rfl) (by kernel_rfl)) ?_
  intro W base args ds gs before hval0 hW hcnd _
  have hval : ∀ (j : Nat) t v, Tryz.f3.params[j]? = some t → args[j]? = some v → Value.okWide Tryz.prog W .any base t v := hval0
  have hW' := hW
  obtain ⟨p, q, hA0, hV, rfl, hfz, hnd⟩ := hW
  have hA : DataW.TrodAll enc Tryz.prog W 0 (fun _ => true) true Tryz.f3.params.toList args.toList ds p := hA0
  rw [Tryz.params3] at hA hval
  obtain ⟨v0, d0, rfl, rfl, h0⟩ := trodAll_one hA
  obtain ⟨rfl, rfl⟩ := trodVars_none hV
  have hlt : ∀ x ∈ p, x.block < W.heap.size := fun x hx => by simpa using hW'.lt x (by simpa using hx)
  obtain ⟨z0, r0, hb0, n0⟩ := rd_bytes (hval 0 22 v0 rfl rfl) h0
  simp only [List.append_nil] at hW'
  refine Calls.mono (tokensDecodes_ok v0 z0 W r0 hb0 n0) fun e W' he => ?_
  obtain ⟨r, rfl, rfl, hS⟩ := he
  have hbelow := hS.old
  exact ⟨_, rfl, _, _, _, [], _, [], hW', trodAll_mk1 (shut_bool Tryz.underlying4 true), trodAll_mk1 (Below.trod laid_Tryz (by kernel_rfl) (of_decide_eq_true (by kernel_rfl)) h0 hbelow (fun x hx => hlt x (by simp [hx]))), rfl, hbelow.frame _, fun h => by cases h⟩
theorem tokensDecodes_holds : Rows.TokensDecodesSaid :=
  OpenClaim.holds_of_wide 3 Tryz.f3 rfl rfl rfl rfl rfl rfl rfl ⟨rfl, rfl, rfl, rfl, rfl⟩ rfl rfl rfl rfl rfl (by kernel_rfl) Tryz.func3 tokensDecodes_closed
    (of_decide_eq_true (by kernel_rfl)) (by unfold Func.isWrapper; first | (rw [if_pos (by decide +kernel)]; kernel_rfl) | (rw [if_neg (by decide +kernel)]; exact ⟨rfl, rfl⟩))
    (fun os started H enc _ => tokensDecodes_lifted os started H enc)
#print axioms tokensDecodes_holds
end Go.Proofs.YtecfgjdpghddgaaGreat
