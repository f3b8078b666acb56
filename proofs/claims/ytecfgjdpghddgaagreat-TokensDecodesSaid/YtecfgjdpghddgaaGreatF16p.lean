/- The walks of the functions of F16p, printed by our own program (kwgen.py) out of our descriptions (base.py). -/
import Derived.Test.YtecfgjdpghddgaaGreatM14d
import Derived.Test.YtecfgjdpghddgaaGreatTab
set_option linter.unusedVariables false
set_option linter.unusedSimpArgs false
set_option linter.unusedSectionVars false
namespace Go.Proofs.YtecfgjdpghddgaaGreat
open Go.RowKit Go.Kw
set_option maxRecDepth 100000
theorem plK_lt {l : List Nat} {k : Nat} (hk : k ≤ 1) : ∀ x ∈ plK l k, x < 256 := by
  refine payl_lt _ _ _ _ fun p hp x hx => ?_
  split at hp
  · obtain ⟨i, _, rfl⟩ := List.mem_map.1 hp; exact packB_lt _ x hx
  · obtain ⟨i, _, rfl⟩ := List.mem_map.1 hp; exact encBk_lt _ _ x hx
end Go.Proofs.YtecfgjdpghddgaaGreat
