/- What is proved: for every input, LexiconJoins returns true and leaves its arguments as they were: two lexicons merged, either way, are the lexicon of all the strings. No condition. -/
import Derived.Test.YtfhbflhnelbkfaaLs
import Derived.Test.YtfhbflhnelbkfaaJLexiconJoins
import Derived.Test.YtfhbflhnelbkfaaF13j
namespace Go.Proofs.Ytfhbflhnelbkfaa
open Go.ChangeShapes Go.WideShapes Go.ChangeAt Go.RowKit Go.Kw
set_option maxRecDepth 100000 in
theorem lexiconJoins_lifted (os : Os) (started : os.Started) (H : Type) (enc : TypeId × Value → H) :
    ReturnsInHanded {} Try.checked os 16 .any (Rows.lexiconJoinsSpec.pre6 enc Try.prog Try.f16 Rows.lexiconJoinsRow.domain false) (Rows.lexiconJoinsSpec.post enc Try.prog Try.f16 false true false false) := by
  refine returnsInHanded_of_change (C := Try.checked) own_Try started (by kernel_rfl) Try.func16
    (ChangeSpec.witness6 (enc := enc) (C := Try.checked) false ⟨#[], #[.slice none 0 0, .slice none 0 0], []⟩ 8 (by kernel_rfl) (by kernel_rfl) (by kernel_rfl) (by kernel_rfl)) ?_
  intro W base args ds gs before hval0 hW hcnd _
  have hval : ∀ (j : Nat) t v, Try.f16.params[j]? = some t → args[j]? = some v → Value.okWide Try.prog W .any base t v := hval0
  have hW' := hW
  obtain ⟨p, q, hA0, hV, rfl, hfz, hnd⟩ := hW
  have hA : DataW.TrodAll enc Try.prog W 0 (fun _ => true) true Try.f16.params.toList args.toList ds p := hA0
  rw [Try.params16] at hA hval
  obtain ⟨v0, v1, d0, d1, p0, p1, rfl, rfl, rfl, h0, h1⟩ := trodAll_two hA
  obtain ⟨rfl, rfl⟩ := trodVars_none hV
  have hlt : ∀ x ∈ p0 ++ p1, x.block < W.heap.size := fun x hx => by simpa using hW'.lt x (by simpa using hx)
  obtain ⟨z0, r0, n0⟩ := rd_strs (hval 0 45 v0 rfl rfl) h0
  obtain ⟨z1, r1, n1⟩ := rd_strs (hval 1 45 v1 rfl rfl) h1
  simp only [List.append_nil] at hW'
  refine Calls.mono (lexiconJoins_ok v0 z0 v1 z1 W r0 n0 r1 n1) fun e W' he => ?_
  obtain ⟨r, rfl, rfl, hS⟩ := he
  have hbelow := hS.old
  exact ⟨_, rfl, _, _, _, [], _, [], hW', trodAll_mk1 (shut_bool Try.underlying4 true), trodAll_mk2 (Below.trod laid_Try (by kernel_rfl) (of_decide_eq_true (by kernel_rfl)) h0 hbelow (fun x hx => hlt x (by simp [hx]))) (Below.trod laid_Try (by kernel_rfl) (of_decide_eq_true (by kernel_rfl)) h1 hbelow (fun x hx => hlt x (by simp [hx]))), rfl, hbelow.frame _, fun h => by cases h⟩
theorem lexiconJoins_holds : Rows.LexiconJoinsSaid :=
  OpenClaim.holds_of_wide 16 Try.f16 rfl rfl rfl rfl rfl rfl rfl ⟨rfl, rfl, rfl, rfl, rfl⟩ rfl rfl rfl rfl rfl (by kernel_rfl) Try.func16 lexiconJoins_closed
    (of_decide_eq_true (by kernel_rfl)) (by unfold Func.isWrapper; first | (rw [if_pos (by decide +kernel)]; kernel_rfl) | (rw [if_neg (by decide +kernel)]; exact ⟨rfl, rfl⟩))
    (fun os started H enc _ => lexiconJoins_lifted os started H enc)
#print axioms lexiconJoins_holds
end Go.Proofs.Ytfhbflhnelbkfaa
