/-
  M02V: what is read as a number with no error is the number's encoding. No program in sight.
-/
import Derived.Test.YtecfgjdpghddgaaGreatM14d
set_option linter.unusedVariables false
set_option linter.unusedSimpArgs false
set_option linter.unusedSectionVars false
namespace Go.Kw
end Go.Kw
