/-
  KI2: two results, the first in a cell. Our own text; it names no program.
-/
import Derived.Test.YtfhbflhnelbkfaaKm
set_option linter.unusedSimpArgs false
set_option linter.unusedVariables false
set_option linter.unusedSectionVars false
namespace Go.Kw
open Go.RowKit
section
variable {P : Program} {n : Nat} {fn : Func} {Φ : Value → World → Prop} {L : Know} {w : World}
theorem post2c {t T b u : Nat} {vs : List Value} {x : Value} (hr : fn.results = #[.cell t T, .tmp u]) (hv : look L t = some (.pointer (some ⟨b, 0, none⟩))) (hx : look L u = some x) (hT : aggB P T vs.length = true) (hc : ∀ j u, vs[j]? = some u → w.cell? ⟨b, j, none⟩ = some u)
    (h : Φ (.tuple #[.agg vs.toArray, x]) w) : PostK P n fn Φ L w := fun a ha => by
  have h1 := ha.slot t _ hv
  have h2 := ha.slot u _ hx
  refine ⟨_, ?_, h⟩
  simp [results, hr, Array.getD_eq_getD_getElem?, h1, h2, asAddr, loadVar_agg hT hc]
end
end Go.Kw
