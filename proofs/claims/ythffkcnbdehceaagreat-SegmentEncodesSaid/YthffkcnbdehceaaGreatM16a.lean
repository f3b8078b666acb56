/-
 M16a:the document's example of layer 16,reckoned. No program in sight.
-/
import Derived.Test.YthffkcnbdehceaaGreatM03
open Go.Proofs.YthffkcnbdehceaaGreat
set_option linter.unusedVariables false
set_option linter.unusedSimpArgs false
set_option linter.unusedSectionVars false
namespace Go.Kw
end Go.Kw
