/-
  KI: runes as strings. Our own text; it names no program.
-/
import Derived.Test.YtfhbflhnelbkfaaKm
import Derived.Laws.Runes
set_option linter.unusedSimpArgs false
set_option linter.unusedVariables false
set_option linter.unusedSectionVars false
namespace Go.Kw
open Go.RowKit
section
variable {P : Program} {n : Nat} {L : Know} {w : World}
/-- A rune becomes a string. -/
theorem Ev.convStr {s t ty : TypeId} {k : IntKind} {a : Int} {d : Option Nat} {pos : String} {af : Array Edge} {g : Option (Nat × Bool)} {x : Operand} (hs : (P.underlying s).isSome = true) (ht : P.underlying t = some .string) (hx : evK L x = some (.int k a)) : Ev P n L w ⟨d, .convert s t x, ty, pos, af, g⟩ (.string (Utf8.encode a)) := .of fun ρ hρ => by
  simp only [execOp, hρ hx, Sem.run_bind, run_convert_int_string _ _ _ _ _ hs ht, Result.andThen_ok, Sem.run_pure]
theorem wrap_i32 {a : Nat} (h : a < 2147483648) : IntKind.i32.wrap (a : Int) = a := by
  have hm : (a : Int) % 4294967296 = a := by omega
  unfold IntKind.wrap
  simp [IntKind.bits, IntKind.signed, hm]
  omega
end
end Go.Kw
