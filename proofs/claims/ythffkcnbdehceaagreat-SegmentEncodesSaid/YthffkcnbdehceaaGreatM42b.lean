/-
 M42b:texts as lists of bytes;a text cut at a byte;decimal numbers and the texts of manifests. No program in sight.
-/
import Derived.Test.YthffkcnbdehceaaGreatM13
import Derived.Lib.SplitLaws
import Derived.Lib.AtoiAll
import Derived.Lib.ItoaNum
open Go.Proofs.YthffkcnbdehceaaGreat
set_option linter.unusedVariables false
set_option linter.unusedSimpArgs false
set_option linter.unusedSectionVars false
namespace Go.Kw
def bs (l:List UInt8):ByteArray:=⟨l.toArray⟩
section
variable {al:List (ByteArray×Bool)} {nx jr:Int} {pl:List Pc}
end
end Go.Kw
