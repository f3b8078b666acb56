/-
  KI2: two results, the first in a cell. Our own text; it names no program.
-/
import Derived.Test.YtecfgjdpghddgaaGreatKm
set_option linter.unusedVariables false
set_option linter.unusedSimpArgs false
set_option linter.unusedSectionVars false
namespace Go.Kw
open Go.RowKit
section
variable {P : Program} {n : Nat} {fn : Func} {Φ : Value → World → Prop} {L : Know} {w : World}
end
end Go.Kw
