/-
  M02: plain facts on numbers in groups of seven bits (layer 2). No program in sight.
-/
import Derived.WalkKit
import Derived.Lib.BitFns
set_option linter.unusedVariables false
set_option linter.unusedSimpArgs false
set_option linter.unusedSectionVars false
namespace Go.Kw
def uvF : Nat → Nat → List Nat
  | 0, v => [v % 256]
  | f + 1, v => if v < 128 then [v % 256] else (v % 256 ||| 128) :: uvF f (v / 128)
def uv (v : Nat) : List Nat := uvF 9 v
theorem take_succ_of {α : Type} {l : List α} {k : Nat} {x : α} (h : l[k]? = some x) : l.take (k + 1) = l.take k ++ [x] := by
  rw [List.take_add_one, h]; rfl
theorem mem_of_get {α : Type} {l : List α} {k : Nat} {x : α} (h : l[k]? = some x) : x ∈ l := List.mem_of_getElem? h
end Go.Kw
