/-
  KK: a string's byte. Our own text; it names no program.
-/
import Derived.Test.YtecfgjdpghddgaaGreatKp
set_option linter.unusedVariables false
set_option linter.unusedSimpArgs false
set_option linter.unusedSectionVars false
namespace Go.Kw
open Go.RowKit
section
variable {P : Program} {n : Nat} {L : Know} {w : World} {d : Option Nat} {ty : TypeId} {pos : String} {af : Array Edge} {g : Option (Nat × Bool)}
theorem bget {s : ByteArray} {j : Nat} {b : UInt8} (h : s.data.toList[j]? = some b) : s[j]? = some b := by
  obtain ⟨hj, rfl⟩ := List.getElem?_eq_some_iff.1 h
  have hj' : j < s.size := by simpa using hj
  rw [getElem?_pos s j hj']
  rfl
theorem Ev.idxStr {x i : Operand} {t : TypeId} {s : ByteArray} {j : Nat} {b : UInt8} (ht : P.underlying t = some .string) (hx : evK L x = some (.string s)) (hi : evK L i = some (.int .i64 (j : Int))) (hb : s.data.toList[j]? = some b) :
    Ev P n L w ⟨d, .index t x i, ty, pos, af, g⟩ (.int .u8 ((b.toNat : Nat) : Int)) := .of fun ρ hρ => by
  have hb' := bget hb
  have h0 : (0 : Int) ≤ (j : Int) := by omega
  simp only [execOp, hρ hx, hρ hi]
  simp [Instr.index, asIntOf, run_underlying ht, hb', h0, go_sem]
end
section
variable {P : Program} {n : Nat} {ops : List Oper} {K : Know → World → Prop} {L : Know} {w : World} {S : World → Prop} {SS : List (World → Prop)} {p q : Plan}
end
end Go.Kw
