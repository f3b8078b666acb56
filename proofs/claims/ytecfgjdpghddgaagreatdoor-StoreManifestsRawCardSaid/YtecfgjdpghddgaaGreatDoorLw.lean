/-
  LW: what the frames of all laws of this seat share: how arguments read. Our own text.
-/
import Derived.Test.YtecfgjdpghddgaaGreatDoorRows
import Derived.Test.YtecfgjdpghddgaaGreatDoorKo
import Derived.ProofKit
set_option linter.unusedVariables false
set_option linter.unusedSimpArgs false
set_option linter.unusedSectionVars false
namespace Go.Proofs.YtecfgjdpghddgaaGreatDoor
set_option maxRecDepth 100000
open Go.ChangeShapes Go.WideShapes Go.ChangeAt Go.RowKit Go.Kw
theorem own_Tryz : ownKnob Tryz.prog.godebug = none := by kernel_rfl
theorem laid_Tryz : laidOutB Tryz.prog = true := by kernel_rfl
end Go.Proofs.YtecfgjdpghddgaaGreatDoor
