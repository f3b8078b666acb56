/- The walks of the functions of F12, printed by our own program (kwgen.py) out of our descriptions (base.py). -/
import Derived.Test.YtfhbflhnelbkfaaKd
import Derived.Test.YtfhbflhnelbkfaaTab
namespace Go.Proofs.Ytfhbflhnelbkfaa
open Go.RowKit Go.Kw
set_option maxRecDepth 100000
set_option linter.unusedVariables false
set_option linter.unusedSimpArgs false
theorem same_ok (v u : Value) (a b : List Nat) (w : World) (hv : RdL w v (encN .i64) a) (hu : RdL w u (encN .i64) b) (hn : a.length ≤ 1000000000) :
    CallsV Try.prog 26 [v, u] w fun r w' => r = .bool (decide (a = b)) ∧ Sat w [] w' := by
  have hs0 := Sat.start w
  refine callsV_of Try.func26 rfl rfl ?_
  refine CW.seq ?_
  refine CW.region ?_
  refine RT.ev rfl rfl (Ev.assign rfl) ?_
  refine RT.nil ?_
  refine CW.seq ?_
  refine CW.seq ?_
  refine CW.region ?_
  refine RT.ev rfl rfl (Ev.move rfl) ?_
  refine RT.ev rfl rfl (Ev.lenL Try.underlying22 rfl (hv.ext hs0.ext)) ?_
  refine RT.ev rfl rfl (Ev.move rfl) ?_
  refine RT.ev rfl rfl (Ev.lenL Try.underlying22 rfl (hu.ext hs0.ext)) ?_
  refine RT.ev rfl rfl (Ev.neqN rfl rfl) ?_
  refine RT.nil ?_
  refine CW.condD rfl (fun hc_1 => ?_) (fun hc_1 => ?_)
  · refine CW.seq ?_
    refine CW.region ?_
    refine RT.ev rfl rfl (Ev.assign rfl) ?_
    refine RT.nil ?_
    refine CW.ret ?_
    show PostK _ _ _ _ _ _
    refine post1 rfl rfl ?_
    exact ⟨by rw [decide_eq_false fun h => hc_1 (by rw [h])], hs0⟩
  · refine CW.skip ?_
    refine CW.seq ?_
    refine CW.seq ?_
    refine CW.region ?_
    refine RT.ev rfl rfl (Ev.move rfl) ?_
    refine RT.ev rfl rfl (Ev.lenL Try.underlying22 rfl (hv.ext hs0.ext)) ?_
    refine RT.ev rfl rfl (Ev.move rfl) ?_
    refine RT.nil ?_
    refine CW.block ?_
    refine CW.loop (α := Nat) (fun k => [(0, v), (1, u), (12, (Value.int .i64 ((a.length : Nat) : Int))), (13, (Value.int .i64 ((k : Nat) : Int)))]) (fun k w' => Sat w [] w' ∧ (k ≤ a.length) ∧ (a.take k = b.take k)) (fun k => a.length - k) 0 ⟨rfl, rfl, rfl, rfl, trivial⟩ ⟨hs0, Nat.zero_le _, by simp⟩ ?_
    rintro k w_1 ⟨hs_1, hk, heq⟩
    show CW _ _ _ _ [(0, v), (1, u), (12, (Value.int .i64 ((a.length : Nat) : Int))), (13, (Value.int .i64 ((k : Nat) : Int)))] _
    refine CW.seq ?_
    refine CW.region ?_
    refine RT.ev rfl rfl (Ev.lssN rfl rfl) ?_
    refine RT.nil ?_
    refine CW.seq ?_
    refine CW.condD rfl (fun hc_2 => ?_) (fun hc_2 => ?_)
    · refine CW.skip ?_
      refine CW.seq ?_
      refine CW.block ?_
      refine CW.seq ?_
      refine CW.region ?_
      refine RT.ev rfl rfl (Ev.move rfl) ?_
      refine RT.ev rfl rfl (Ev.assign rfl) ?_
      refine RT.nil ?_
      refine CW.seq ?_
      obtain ⟨x, hx⟩ : ∃ x, (a)[k]? = some x := ⟨_, List.getElem?_eq_getElem (hc_2)⟩
      obtain ⟨y, hy⟩ : ∃ y, (b)[k]? = some y := ⟨_, List.getElem?_eq_getElem (by omega)⟩
      refine CW.draw (fun w' => Sat w [] w') (.free 0 (.free 1 (.free 2 (.free 3 (.free 4 (.free 5 (.free 6 (.free 7 (.free 8 .fin))))))))) mixed (by kernel_rfl) ?_
      have hs_2 := hs_1.drew
      refine RP.ev rfl rfl rfl (fun w' hS' => Ev.move rfl) hs_2 ?_
      refine RP.ev rfl rfl rfl (fun w' hS' => Ev.move rfl) hs_2 ?_
      refine RP.ev rfl rfl rfl (fun w' hS' => Ev.idxL (E := encN .i64) sl22 rfl rfl (hv.ext hS'.ext) (by omega)) hs_2 ?_
      refine RP.ev rfl rfl rfl (fun w' hS' => Ev.ldL (E := encN .i64) scal3 rfl (hv.ext hS'.ext) hx (by decide) rfl) hs_2 ?_
      refine RP.ev rfl rfl rfl (fun w' hS' => Ev.move rfl) hs_2 ?_
      refine RP.ev rfl rfl rfl (fun w' hS' => Ev.move rfl) hs_2 ?_
      refine RP.ev rfl rfl rfl (fun w' hS' => Ev.idxL (E := encN .i64) sl22 rfl rfl (hu.ext hS'.ext) (by omega)) hs_2 ?_
      refine RP.ev rfl rfl rfl (fun w' hS' => Ev.ldL (E := encN .i64) scal3 rfl (hu.ext hS'.ext) hy (by decide) rfl) hs_2 ?_
      refine RP.ev rfl rfl rfl (fun w' hS' => Ev.neqN rfl rfl) hs_2 ?_
      refine RP.fin ?_
      refine CW.condD rfl (fun hc_3 => ?_) (fun hc_3 => ?_)
      · refine CW.seq ?_
        refine CW.region ?_
        refine RT.ev rfl rfl (Ev.assign rfl) ?_
        refine RT.nil ?_
        refine CW.ret ?_
        show PostK _ _ _ _ _ _
        refine post1 rfl rfl ?_
        subst_vars
        exact ⟨congrArg Value.bool (decide_eq_false fun h => hc_3 (by subst h; rw [hx] at hy; exact Option.some.inj hy)).symm, hs_2⟩
      · refine CW.skip ?_
        refine CW.region ?_
        refine RT.ev rfl rfl (Ev.addI (b := 1) rfl rfl (by omega)) ?_
        refine RT.ev rfl rfl (Ev.move rfl) ?_
        refine RT.nil ?_
        exact ⟨k + 1, ⟨rfl, rfl, rfl, rfl, trivial⟩, ⟨hs_2, by omega, by rw [take_snoc hx, take_snoc hy, heq, show x = y by omega]⟩, (show (a.length - (k + 1)) < (a.length - k) from by omega)⟩
    · refine CW.exit0 ?_
      refine CW.seq ?_
      refine CW.region ?_
      refine RT.ev rfl rfl (Ev.assign rfl) ?_
      refine RT.nil ?_
      refine CW.ret ?_
      show PostK _ _ _ _ _ _
      refine post1 rfl rfl ?_
      rw [show k = a.length by omega, List.take_length, List.take_of_length_le (by omega)] at heq
      exact ⟨by rw [decide_eq_true heq], hs_1⟩

end Go.Proofs.Ytfhbflhnelbkfaa
