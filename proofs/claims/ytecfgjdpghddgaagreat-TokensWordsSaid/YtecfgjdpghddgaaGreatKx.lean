/- Part of a claim of ours: texts of our own joined by our program claimpack.py. -/
import Derived.Test.YtecfgjdpghddgaaGreatKp
set_option linter.unusedVariables false
set_option linter.unusedSimpArgs false
set_option linter.unusedSectionVars false
namespace Go.Kw
open Go.RowKit
section
variable {P : Program} {n : Nat} {fn : Func} {Φ : Value → World → Prop} {L : Know} {w : World}
end
end Go.Kw
