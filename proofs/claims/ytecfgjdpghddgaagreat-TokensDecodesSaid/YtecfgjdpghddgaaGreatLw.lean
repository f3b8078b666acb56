/-
  LW: what the frames of all laws of this seat share: how arguments read. Our own text.
-/
import Derived.Test.YtecfgjdpghddgaaGreatRows
import Derived.Test.YtecfgjdpghddgaaGreatKo
import Derived.ProofKit
set_option linter.unusedVariables false
set_option linter.unusedSimpArgs false
set_option linter.unusedSectionVars false
namespace Go.Proofs.YtecfgjdpghddgaaGreat
set_option maxRecDepth 100000
open Go.ChangeShapes Go.WideShapes Go.ChangeAt Go.RowKit Go.Kw
theorem own_Tryz : ownKnob Tryz.prog.godebug = none := by kernel_rfl
theorem laid_Tryz : laidOutB Tryz.prog = true := by kernel_rfl
theorem add_spot {w : World} {a : Addr} {i : Nat} {u : Value} (h : w.cell? (a.add i) = some u) (h0 : i = 0 → a.spot = none) : w.cell? ⟨a.block, a.off + i, none⟩ = some u := by
  unfold Addr.add at h
  split at h
  · rename_i hi
    have := h0 hi
    subst hi
    obtain ⟨b, o, s⟩ := a
    cases this
    exact h
  · exact h
end Go.Proofs.YtecfgjdpghddgaaGreat
