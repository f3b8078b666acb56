/-
  KU: division of numbers without a sign. Our own text; it names no program.
-/
import Derived.Test.YtfhbflhnelbkfaaKj
set_option linter.unusedSimpArgs false
set_option linter.unusedVariables false
set_option linter.unusedSectionVars false
namespace Go.Kw
open Go.RowKit
section
variable {P : Program} {n : Nat} {L : Know} {w : World} {d : Option Nat} {x y : Operand} {xt yt ty : TypeId} {g : Option (Nat × Bool)} {k : IntKind}
theorem Ev.quoN {pos : String} {af : Array Edge} {a b : Nat} (hx : evK L x = some (.int k (a : Int))) (hy : evK L y = some (.int k (b : Int))) (hk : k.signed = false) (hb : 0 < b) (h : a < 2 ^ k.bits) : Ev P n L w ⟨d, .binOp .quo xt x y yt, ty, pos, af, g⟩ (.int k ((a / b : Nat) : Int)) :=
  .bin hx hy (eqGuard_at_int ..) fun w => by
    have h0 : (b : Int) ≠ 0 := by omega
    have h1 : ((a : Int).tdiv (b : Int)) = ((a / b : Nat) : Int) := by rw [Int.tdiv_eq_ediv_of_nonneg (by omega)]; simp
    have h2 : k.wrap ((a / b : Nat) : Int) = ((a / b : Nat) : Int) := wrap_u hk (Nat.lt_of_le_of_lt (Nat.div_le_self a b) h)
    simp only [binOp, Op.intDiv, h0, if_false, h1, h2, go_sem]
    simp [go_sem]
/-- A load of an object as a whole. -/
theorem Ev.ldObj {w0 : World} {cs : List Chunk} {pos : String} {af : Array Edge} {T i b : Nat} {U : TypeId} {cells : List Value} {m : Nat} (hT : aggB P T m = true) (hx : evK L x = some (.pointer (some ⟨b, 0, none⟩))) (hs : Sat w0 cs w) (hi : cs[i]? = some (cObj b U cells)) (hm : cells.length = m) :
    Ev P n L w ⟨d, .load T x, ty, pos, af, g⟩ (.agg cells.toArray) := .of fun ρ hρ => by
  subst hm
  have hl := run_loadCells_list (P := P) w ⟨b, 0, none⟩ cells (fun q u hu => by rw [Addr.add_lit, Nat.zero_add]; exact hs.cell hi hu)
  have hag : (isAgg T).run P w = .ok true w := by
    unfold aggB at hT
    cases hun : P.underlying T with
    | none => simp [hun] at hT
    | some D => cases D <;> simp [hun] at hT <;> simp [isAgg, run_underlying hun, go_sem]
  have hsz : (sizeOf T).run P w = .ok cells.length w := by
    unfold aggB at hT
    cases hin : P.info? T with
    | none => simp [hin] at hT
    | some inf => simp [hin] at hT; simp [sizeOf, typeInfo, hin, hT.2, go_sem]
  have hld : (Instr.loadAt T (ρ x)).run P w = .ok (.agg cells.toArray) w := by
    simp only [Instr.loadAt, loadVar, hρ hx, Instr.sureAddr, Sem.run_bind, Sem.run_pure, Result.andThen_ok, hag, hsz, hl, if_true]
  simp only [execOp, Sem.run_bind, hld, Result.andThen_ok, Sem.run_pure]
end
end Go.Kw
