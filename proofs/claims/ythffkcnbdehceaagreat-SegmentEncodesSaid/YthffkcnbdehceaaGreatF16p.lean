/-The walks of the functions of F16p,printed by our own program (kwgen.py) out of our descriptions (base.py). -/
import Derived.Test.YthffkcnbdehceaaGreatM02s
import Derived.Test.YthffkcnbdehceaaGreatTab
set_option linter.unusedVariables false
set_option linter.unusedSimpArgs false
set_option linter.unusedSectionVars false
namespace Go.Proofs.YthffkcnbdehceaaGreat
open Go.RowKit Go.Kw
set_option maxRecDepth 100000
theorem jO {l:List Nat} {k:Nat} (hk:k<=1):∀ x∈jM l k,x<256:=by
 refine BF _ _ _ _ λ p hp x hx=> ?_
 split at hp
 ·obtain ⟨i,_,rfl⟩:=List.mem_map.1 hp;exact kj _ x hx
 obtain ⟨i,_,rfl⟩:=List.mem_map.1 hp;exact ka _ _ x hx
end Go.Proofs.YthffkcnbdehceaaGreat
