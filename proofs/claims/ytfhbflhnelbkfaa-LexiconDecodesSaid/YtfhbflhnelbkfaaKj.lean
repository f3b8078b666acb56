/-
  KJ: a scope with one label to which the run jumps forward. Our own text; it names no program.
-/
import Derived.Test.YtfhbflhnelbkfaaKt
import Derived.ScopeJumps
set_option linter.unusedSimpArgs false
set_option linter.unusedVariables false
set_option linter.unusedSectionVars false
namespace Go.Kw
open Go.RowKit
section
variable {P : Program} {n : Nat} {N R : Know → World → Prop} {X G : List (Nat × (Know → World → Prop))} {L : Know} {w : World}
theorem CW.goto0 {l : Nat} {J : Know → World → Prop} (h : J L w) : CW P n (.goto l) ⟨N, R, X, (l, J) :: G⟩ L w := CW.gotoQ (by simp only [lookE_cons, if_pos]; exact h)
theorem CW.scope {c rest : Code} (l : Nat) (J : Know → World → Prop) (hf : findLabel c l = some rest) (h : CW P n c ⟨N, R, X, [(l, J)]⟩ L w) (pass : ∀ L' w', J L' w' → CW P n rest ⟨N, R, X, []⟩ L' w') : CW P n (.scope c) ⟨N, R, X, []⟩ L w := fun a ha => by
  refine wp_scope_jumps l (fun a w => ∃ L, Fits n L a ∧ J L w) (fun _ _ => 0) hf (wp_mono (h a ha) fun e a' w' q => ?_) fun a w hJ => ?_
  · cases e with
    | goto l' =>
      obtain ⟨L', hL, hq⟩ := q
      simp only [lookE_cons] at hq
      by_cases e : l = l'
      · subst e; rw [if_pos rfl] at hq; exact ⟨rfl, L', hL, hq⟩
      · rw [if_neg e] at hq; exact hq.elim
    | normal => exact q
    | ret => exact q
    | exit id => exact q
    | panic c => exact q
    | outgrown => exact q
  · obtain ⟨L', hL, hJ⟩ := hJ
    refine wp_mono (pass L' w hJ a hL) fun e a' w' q => ?_
    cases e with
    | goto l' => obtain ⟨L', hL, hq⟩ := q; exact (hq : False).elim
    | normal => exact q
    | ret => exact q
    | exit id => exact q
    | panic c => exact q
    | outgrown => exact q
end
section
variable {P : Program} {n : Nat} {L : Know} {w w0 : World} {cs : List Chunk} {K : Value → World → Prop} {d : Option Nat} {ty : TypeId} {pos : String} {af : Array Edge} {g : Option (Nat × Bool)}
/-- A struct literal, some parts of several cells. -/
theorem Ev.buildF {T : TypeId} {pl : List (Nat × Nat)} {zs out : List Value} {parts : List (Nat × Operand)} {vs : List (Nat × Value)} (hb : BuildTy P T pl zs) (hp : evParts L parts = some vs) (ho : Instr.fill (fun i => pl.toArray[i]?) zs.toArray vs = some out.toArray) :
    Ev P n L w ⟨d, .build T parts.toArray, ty, pos, af, g⟩ (.agg out.toArray) := .of fun ρ hρ => by
  have he : ∀ (parts : List (Nat × Operand)) (vs : List (Nat × Value)), evParts L parts = some vs → parts.map (fun (i, x) => (i, ρ x)) = vs := by
    intro parts
    induction parts with
    | nil => intro vs h; simp [evParts] at h; simp [h]
    | cons p r ih =>
      intro vs h
      obtain ⟨i, x⟩ := p
      simp only [evParts, Option.bind_eq_some_iff, Option.map_eq_some_iff] at h
      obtain ⟨v, hv, us, hus, rfl⟩ := h
      simp [hρ hv, ih us hus]
  obtain ⟨fs, hu, hpl⟩ := hb.und
  have hz := hb.zero
  cases hi : P.info? T with
  | none => simp [hi] at hz
  | some inf =>
    simp [hi] at hz
    have hrun : (Instr.build T vs.toArray).run P w = .ok (.agg out.toArray) w := by
      simp only [Instr.build, zeroValue, typeInfo, Sem.run_bind]
      simp [hi, hz, run_underlying hu]
      have := hpl w
      simp at this
      have hfill' : Instr.fill (fun x => pl[x]?) zs.toArray vs = some out.toArray := by simpa using ho
      simp [this, Value.cells, hfill']
    simp only [execOp]
    rw [show (parts.toArray.map fun (i, x) => (i, ρ x)) = vs.toArray by rw [List.map_toArray, he parts vs hp]]
    simp only [Sem.run_bind, hrun, Result.andThen_ok, Sem.run_pure]
end
end Go.Kw
