import Derived.Test.YtfhbflhnelbkfaaKm
set_option linter.unusedSimpArgs false
set_option linter.unusedVariables false
set_option linter.unusedSectionVars false
/-! Results that lie in a cell, among three. -/
namespace Go.Kw
open Go.RowKit
section
variable {P : Program} {n : Nat} {fn : Func} {Φ : Value → World → Prop} {L : Know} {w : World}
theorem post3c {t T b u s : Nat} {vs : List Value} {x y : Value} (hr : fn.results = #[.cell t T, .tmp u, .tmp s]) (hv : look L t = some (.pointer (some ⟨b, 0, none⟩))) (hx : look L u = some x) (hy : look L s = some y) (hT : aggB P T vs.length = true) (hc : ∀ j u, vs[j]? = some u → w.cell? ⟨b, j, none⟩ = some u)
    (h : Φ (.tuple #[.agg vs.toArray, x, y]) w) : PostK P n fn Φ L w := fun a ha => by
  have h1 := ha.slot t _ hv
  have h2 := ha.slot u _ hx
  have h3 := ha.slot s _ hy
  refine ⟨_, ?_, h⟩
  simp [results, hr, Array.getD_eq_getD_getElem?, h1, h2, h3, asAddr, loadVar_agg hT hc]
theorem post3m {t T b u s : Nat} {vs : List Value} {x y : Value} (hr : fn.results = #[.tmp u, .cell t T, .tmp s]) (hx : look L u = some x) (hv : look L t = some (.pointer (some ⟨b, 0, none⟩))) (hy : look L s = some y) (hT : aggB P T vs.length = true) (hc : ∀ j u, vs[j]? = some u → w.cell? ⟨b, j, none⟩ = some u)
    (h : Φ (.tuple #[x, .agg vs.toArray, y]) w) : PostK P n fn Φ L w := fun a ha => by
  have h1 := ha.slot t _ hv
  have h2 := ha.slot u _ hx
  have h3 := ha.slot s _ hy
  refine ⟨_, ?_, h⟩
  simp [results, hr, Array.getD_eq_getD_getElem?, h1, h2, h3, asAddr, loadVar_agg hT hc]
end
end Go.Kw
