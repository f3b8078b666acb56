/- What is proved: for every input, LexiconFinds returns true and leaves its arguments as they were: any string is found in a lexicon, and any number named, as in the reference. No condition. -/
import Derived.Test.YtfhbflhnelbkfaaLs
import Derived.Test.YtfhbflhnelbkfaaJLexiconFinds
import Derived.Test.YtfhbflhnelbkfaaF13n
namespace Go.Proofs.Ytfhbflhnelbkfaa
open Go.ChangeShapes Go.WideShapes Go.ChangeAt Go.RowKit Go.Kw
set_option maxRecDepth 100000 in
theorem lexiconFinds_lifted (os : Os) (started : os.Started) (H : Type) (enc : TypeId × Value → H) :
    ReturnsInHanded {} Try.checked os 11 .any (Rows.lexiconFindsSpec.pre6 enc Try.prog Try.f11 Rows.lexiconFindsRow.domain false) (Rows.lexiconFindsSpec.post enc Try.prog Try.f11 false true false false) := by
  refine returnsInHanded_of_change (C := Try.checked) own_Try started (by kernel_rfl) Try.func11
    (ChangeSpec.witness6 (enc := enc) (C := Try.checked) false ⟨#[], #[.slice none 0 0, .string ByteArray.empty, .int .i64 0], []⟩ 8 (by kernel_rfl) (by kernel_rfl) (by kernel_rfl) (by kernel_rfl)) ?_
  intro W base args ds gs before hval0 hW hcnd _
  have hval : ∀ (j : Nat) t v, Try.f11.params[j]? = some t → args[j]? = some v → Value.okWide Try.prog W .any base t v := hval0
  have hW' := hW
  obtain ⟨p, q, hA0, hV, rfl, hfz, hnd⟩ := hW
  have hA : DataW.TrodAll enc Try.prog W 0 (fun _ => true) true Try.f11.params.toList args.toList ds p := hA0
  rw [Try.params11] at hA hval
  obtain ⟨v0, v1, v2, d0, d1, d2, p0, p1, p2, rfl, rfl, rfl, h0, h1, h2⟩ := trodAll_three hA
  obtain ⟨rfl, rfl⟩ := trodVars_none hV
  have hlt : ∀ x ∈ p0 ++ p1 ++ p2, x.block < W.heap.size := fun x hx => by simpa using hW'.lt x (by simpa using hx)
  obtain ⟨z0, r0, n0⟩ := rd_strs (hval 0 45 v0 rfl rfl) h0
  obtain ⟨a1, rfl, _, _, wa1⟩ := Go.ChangeMaps.open_string Try.underlying9 (hval 1 9 v1 rfl rfl) h1
  obtain ⟨a2, rfl, _, _, wa2⟩ := open_int Try.underlying3 (hval 2 3 v2 rfl rfl) h2
  simp only [List.append_nil] at hW'
  refine Calls.mono (lexiconFinds_ok v0 z0 a1 a2 W r0 n0) fun e W' he => ?_
  obtain ⟨r, rfl, rfl, hS⟩ := he
  have hbelow := hS.old
  exact ⟨_, rfl, _, _, _, [], _, [], hW', trodAll_mk1 (shut_bool Try.underlying4 true), trodAll_mk3 (Below.trod laid_Try (by kernel_rfl) (of_decide_eq_true (by kernel_rfl)) h0 hbelow (fun x hx => hlt x (by simp [hx]))) (Below.trod laid_Try (by kernel_rfl) (of_decide_eq_true (by kernel_rfl)) h1 hbelow (fun x hx => hlt x (by simp [hx]))) (Below.trod laid_Try (by kernel_rfl) (of_decide_eq_true (by kernel_rfl)) h2 hbelow (fun x hx => hlt x (by simp [hx]))), rfl, hbelow.frame _, fun h => by cases h⟩
theorem lexiconFinds_holds : Rows.LexiconFindsSaid :=
  OpenClaim.holds_of_wide 11 Try.f11 rfl rfl rfl rfl rfl rfl rfl ⟨rfl, rfl, rfl, rfl, rfl⟩ rfl rfl rfl rfl rfl (by kernel_rfl) Try.func11 lexiconFinds_closed
    (of_decide_eq_true (by kernel_rfl)) (by unfold Func.isWrapper; first | (rw [if_pos (by decide +kernel)]; kernel_rfl) | (rw [if_neg (by decide +kernel)]; exact ⟨rfl, rfl⟩))
    (fun os started H enc _ => lexiconFinds_lifted os started H enc)
#print axioms lexiconFinds_holds
end Go.Proofs.Ytfhbflhnelbkfaa
