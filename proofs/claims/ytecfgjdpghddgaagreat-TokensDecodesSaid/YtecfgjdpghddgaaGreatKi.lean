/-
  KI: runes as strings. Our own text; it names no program.
-/
import Derived.Test.YtecfgjdpghddgaaGreatKm
import Derived.Laws.Runes
set_option linter.unusedVariables false
set_option linter.unusedSimpArgs false
set_option linter.unusedSectionVars false
namespace Go.Kw
open Go.RowKit
section
variable {P : Program} {n : Nat} {L : Know} {w : World}
end
end Go.Kw
