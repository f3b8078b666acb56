/-
  KQ: bools that differ. Our own text; it names no program.
-/
import Derived.Test.YtfhbflhnelbkfaaKb
set_option linter.unusedSimpArgs false
set_option linter.unusedVariables false
set_option linter.unusedSectionVars false
namespace Go.Kw
open Go.RowKit
theorem bool_neq {a b x y z : Bool} (ha : a = x) (hb : b = y) (h : (!(x == y)) = z) : (!(a == b)) = z := by rw [ha, hb]; exact h
theorem bool_eql {a b x y z : Bool} (ha : a = x) (hb : b = y) (h : (x == y) = z) : (a == b) = z := by rw [ha, hb]; exact h
section
variable {P : Program} {n : Nat} {L : Know} {w : World} {d : Option Nat} {ty : TypeId} {pos : String} {af : Array Edge} {g : Option (Nat × Bool)}
theorem run_neqB (t : TypeId) (a b : Bool) (h : P.underlying t = some .bool) (w : World) : (binOp .neq t (.bool a) (.bool b)).run P w = .ok (.bool (!(a == b))) w := by
  have : ∀ d, (Op.equalIn (d + 1) t (.bool a) (.bool b)).run P w = .ok (a == b) w := fun d => by simp [Op.equalIn, run_underlying h]
  simp only [binOp]
  simp [Op.equal, Op.maxDepth, this 9999]
theorem Ev.neqB {x y : Operand} {t T : TypeId} {a b : Bool} (hu : P.underlying t = some .bool) (hx : evK L x = some (.bool a)) (hy : evK L y = some (.bool b)) : Ev P n L w ⟨d, .binOp .neq t x y T, ty, pos, af, g⟩ (.bool (!(a == b))) :=
  .bin hx hy (by rfl) fun w => run_neqB t a b hu w
end
end Go.Kw
