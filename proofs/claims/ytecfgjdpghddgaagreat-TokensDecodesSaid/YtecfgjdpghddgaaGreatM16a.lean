/-
  M16a: the document's example of layer 16, reckoned. No program in sight.
-/
import Derived.Test.YtecfgjdpghddgaaGreatM14d
set_option linter.unusedVariables false
set_option linter.unusedSimpArgs false
set_option linter.unusedSectionVars false
namespace Go.Kw
theorem ok555 : OkN [5, 5, 5] := ⟨by decide, by decide⟩
theorem aw_pl0 : plK [5, 5, 5] 0 = [3, 0, 5, 3, 3, 0, 182, 128] := by decide +kernel
theorem aw_pl1 : 8 < (plK [5, 5, 5] 1).length := by decide +kernel
theorem aw_kind : kindN [5, 5, 5] = 0 := (kindN_zero (by rw [aw_pl0]; have := aw_pl1; simp only [List.length_cons, List.length_nil]; omega)).1
theorem aw_payl : payl [5, 5, 5].length (kindN [5, 5, 5]) (lensK [5, 5, 5]) (ptsK [5, 5, 5]) = [3, 0, 5, 3, 3, 0, 182, 128] := by rw [payl_K, aw_kind, aw_pl0]
theorem aw_seal : sealN (payl [5, 5, 5].length (kindN [5, 5, 5]) (lensK [5, 5, 5]) (ptsK [5, 5, 5])) = [3, 0, 5, 3, 3, 0, 182, 128] ++ byts (sumN [3, 0, 5, 3, 3, 0, 182, 128]) := by rw [aw_payl]; rfl
end Go.Kw
