/- The walks of the functions of F14h, printed by our own program (kwgen.py) out of our descriptions (base.py). -/
import Derived.Test.YtfhbflhnelbkfaaF14
import Derived.Test.YtfhbflhnelbkfaaM14
import Derived.Test.YtfhbflhnelbkfaaTab
namespace Go.Proofs.Ytfhbflhnelbkfaa
open Go.RowKit Go.Kw
set_option maxRecDepth 100000
set_option linter.unusedVariables false
set_option linter.unusedSimpArgs false
theorem lcmp_ok (a b : It) (w : World) (ha : a.w < 2 ^ 62) (hb : b.w < 2 ^ 62) :
    CallsV Try.prog 172 [((encIt).ag a), ((encIt).ag b)] w fun r w' => ∃ z : Int, r = .int .i64 z ∧ (z < 0 ↔ a.w < b.w) ∧ Sat w [] w' := by
  have hs0 := Sat.start w
  refine callsV_of Try.func172 rfl rfl ?_
  refine CW.seq ?_
  refine CW.region ?_
  refine RT.eff rfl rfl (OpE.box hs0 rfl fun b_1 w_1 hs_1 hch_1 hb_1 => ?_)
  have hs_1d : Sat w [cObj b_1 164 [(Value.int .i64 ((a.w : Nat) : Int)), (Value.int .i64 (a.sym)), (Value.int .i64 ((a.lf : Nat) : Int)), (Value.int .i64 ((a.rt : Nat) : Int))]] _ := hs_1
  refine RT.eff rfl rfl (OpE.box hs_1d rfl fun b_2 w_2 hs_2 hch_2 hb_2 => ?_)
  have hs_2d : Sat w [cObj b_1 164 [(Value.int .i64 ((a.w : Nat) : Int)), (Value.int .i64 (a.sym)), (Value.int .i64 ((a.lf : Nat) : Int)), (Value.int .i64 ((a.rt : Nat) : Int))], cObj b_2 164 [(Value.int .i64 ((b.w : Nat) : Int)), (Value.int .i64 (b.sym)), (Value.int .i64 ((b.lf : Nat) : Int)), (Value.int .i64 ((b.rt : Nat) : Int))]] _ := hs_2
  refine RT.ev rfl rfl (Ev.assign rfl) ?_
  refine RT.nil ?_
  refine CW.seq ?_
  refine CW.region ?_
  refine RT.ev rfl rfl (Ev.fieldAddr fld164_0 rfl rfl) <| RT.ev rfl rfl (Ev.load scal3 rfl (hs_2d.cell (i := 0) (j := 0) rfl rfl)) <| RT.ev rfl rfl (Ev.fieldAddr fld164_0 rfl rfl) <| RT.ev rfl rfl (Ev.load scal3 rfl (hs_2d.cell (i := 1) (j := 0) rfl rfl)) <| RT.ev rfl rfl (Ev.sub rfl rfl (by unfold inI64; omega)) <| RT.ev rfl rfl (Ev.assign rfl) ?_
  refine RT.nil ?_
  refine CW.ret ?_
  show PostK _ _ _ _ _ _
  refine post1 rfl rfl ?_
  have hs_3 : Sat w [] w_2 := hs_2d.sub ((.cons _ (.cons _ .slnil)))
  exact ⟨_, rfl, by omega, hs_3⟩

theorem ncmp_ok (a b : It) (w : World) (ha : a.w < 2 ^ 62) (hb : b.w < 2 ^ 62) :
    CallsV Try.prog 174 [((encIt).ag a), ((encIt).ag b)] w fun r w' => ∃ z : Int, r = .int .i64 z ∧ (z < 0 ↔ a.w < b.w) ∧ Sat w [] w' := by
  have hs0 := Sat.start w
  refine callsV_of Try.func174 rfl rfl ?_
  refine CW.seq ?_
  refine CW.region ?_
  refine RT.eff rfl rfl (OpE.box hs0 rfl fun b_1 w_1 hs_1 hch_1 hb_1 => ?_)
  have hs_1d : Sat w [cObj b_1 164 [(Value.int .i64 ((a.w : Nat) : Int)), (Value.int .i64 (a.sym)), (Value.int .i64 ((a.lf : Nat) : Int)), (Value.int .i64 ((a.rt : Nat) : Int))]] _ := hs_1
  refine RT.eff rfl rfl (OpE.box hs_1d rfl fun b_2 w_2 hs_2 hch_2 hb_2 => ?_)
  have hs_2d : Sat w [cObj b_1 164 [(Value.int .i64 ((a.w : Nat) : Int)), (Value.int .i64 (a.sym)), (Value.int .i64 ((a.lf : Nat) : Int)), (Value.int .i64 ((a.rt : Nat) : Int))], cObj b_2 164 [(Value.int .i64 ((b.w : Nat) : Int)), (Value.int .i64 (b.sym)), (Value.int .i64 ((b.lf : Nat) : Int)), (Value.int .i64 ((b.rt : Nat) : Int))]] _ := hs_2
  refine RT.ev rfl rfl (Ev.assign rfl) ?_
  refine RT.nil ?_
  refine CW.seq ?_
  refine CW.region ?_
  refine RT.ev rfl rfl (Ev.fieldAddr fld164_0 rfl rfl) <| RT.ev rfl rfl (Ev.load scal3 rfl (hs_2d.cell (i := 0) (j := 0) rfl rfl)) <| RT.ev rfl rfl (Ev.fieldAddr fld164_0 rfl rfl) <| RT.ev rfl rfl (Ev.load scal3 rfl (hs_2d.cell (i := 1) (j := 0) rfl rfl)) <| RT.ev rfl rfl (Ev.sub rfl rfl (by unfold inI64; omega)) <| RT.ev rfl rfl (Ev.assign rfl) ?_
  refine RT.nil ?_
  refine CW.ret ?_
  show PostK _ _ _ _ _ _
  refine post1 rfl rfl ?_
  have hs_3 : Sat w [] w_2 := hs_2d.sub ((.cons _ (.cons _ .slnil)))
  exact ⟨_, rfl, by omega, hs_3⟩

theorem hcheck_ok (v : Value) (c : List Nat) (w : World) (hv : RdL w v (encN .i64) c) (hn : c.length ≤ 1024) (hc : ∀ x ∈ c, x ≤ 4096) :
    CallsV Try.prog 134 [v, (Value.int .i64 ((15 : Nat) : Int))] w fun r w' => r = .int .i64 0 ∧ Sat w [] w' := by
  have hs0 := Sat.start w
  refine callsV_of Try.func134 rfl rfl ?_
  refine CW.seq ?_
  refine CW.region ?_
  refine RT.ev rfl rfl (Ev.assign rfl) ?_
  refine RT.nil ?_
  refine CW.seq ?_
  refine CW.block ?_
  refine CW.seq ?_
  refine CW.mid (fun L' w' => Weak [(0, v), (1, (Value.int .i64 ((15 : Nat) : Int))), (4, (Value.int .i64 ((0 : Nat) : Int))), (8, (Value.bool (decide ((15 < 1) ∨ (15 < 15)))))] L' ∧ Sat w [] w') ?_ ?_
  · refine CW.region ?_
    refine RT.ev rfl rfl (Ev.move rfl) <| RT.ev rfl rfl (Ev.lssN (a := 15) (b := 1) rfl rfl) <| RT.ev rfl rfl (Ev.move rfl) ?_
    refine RT.yes rfl rfl rfl (rfl) ?_
    refine RT.ev rfl rfl (Ev.move rfl) ?_
    refine RT.yes rfl rfl rfl (rfl) ?_
    refine RT.ev rfl rfl (Ev.gtrN (a := 15) (b := 15) rfl rfl) <| RT.ev rfl rfl (Ev.pickN rfl (rfl) rfl) <| RT.ev rfl rfl (Ev.assign rfl) ?_
    refine RT.nil ?_
    exact ⟨⟨rfl, rfl, rfl, congrArg some (congrArg Value.bool (by simp [])), trivial⟩, hs0⟩
  · rintro L' w_1 ⟨hw_1, hs_1⟩
    refine CW.weaken _ hw_1 ?_
    refine CW.condF rfl (decide_eq_false (by omega)) ?_
    refine CW.seq ?_
    refine CW.region ?_
    refine RT.ev rfl rfl (Ev.move rfl) <| RT.ev rfl rfl (Ev.lenL Try.underlying22 rfl (hv.ext hs_1.ext)) <| RT.ev rfl rfl (Ev.gtrN (b := 1024) rfl rfl) <| RT.ev rfl rfl (Ev.assign rfl) ?_
    refine RT.nil ?_
    refine CW.condF rfl (decide_eq_false (by omega)) ?_
    refine CW.skip ?_
    refine CW.seq ?_
    refine CW.region ?_
    refine RT.ev rfl rfl (Ev.assign rfl) ?_
    refine RT.nil ?_
    refine CW.seq ?_
    refine CW.seq ?_
    refine CW.region ?_
    refine RT.ev rfl rfl (Ev.move rfl) <| RT.ev rfl rfl (Ev.lenL Try.underlying22 rfl (hv.ext hs_1.ext)) <| RT.ev rfl rfl (Ev.move rfl) ?_
    refine RT.nil ?_
    refine CW.block ?_
    refine CW.loop (α := Nat × Nat) (fun (k, p) => [(1, (Value.int .i64 ((15 : Nat) : Int))), (5, (Value.int .i64 ((p : Nat) : Int))), (19, v), (20, (Value.int .i64 ((c.length : Nat) : Int))), (21, (Value.int .i64 ((k : Nat) : Int)))]) (fun (k, p) w' => Sat w [] w' ∧ (k ≤ c.length) ∧ (p ≤ k)) (fun (k, p) => c.length - k) (0, 0) ⟨rfl, rfl, rfl, rfl, rfl, trivial⟩ ⟨hs_1, Nat.zero_le _, Nat.le_refl _⟩ ?_
    rintro ⟨k, p⟩ w_2 ⟨hs_2, hk, hp⟩
    show CW _ _ _ _ [(1, (Value.int .i64 ((15 : Nat) : Int))), (5, (Value.int .i64 ((p : Nat) : Int))), (19, v), (20, (Value.int .i64 ((c.length : Nat) : Int))), (21, (Value.int .i64 ((k : Nat) : Int)))] _
    refine CW.seq ?_
    refine CW.region ?_
    refine RT.ev rfl rfl (Ev.lssN rfl rfl) ?_
    refine RT.nil ?_
    refine CW.seq ?_
    refine CW.condD rfl (fun hc_1 => ?_) (fun hc_1 => ?_)
    · refine CW.skip ?_
      refine CW.seq ?_
      refine CW.block ?_
      refine CW.seq ?_
      obtain ⟨x, hx⟩ : ∃ x, (c)[k]? = some x := ⟨_, List.getElem?_eq_getElem hc_1⟩
      refine CW.region ?_
      refine RT.ev rfl rfl (Ev.idxL (E := encN .i64) sl22 rfl rfl (hv.ext hs_2.ext) (by omega)) <| RT.ev rfl rfl (Ev.ldL (E := encN .i64) scal3 rfl (hv.ext hs_2.ext) hx (by decide) rfl) <| RT.ev rfl rfl (Ev.assign rfl) ?_
      refine RT.nil ?_
      refine CW.seq ?_
      refine CW.seq ?_
      refine CW.mid (fun L' w' => Weak [(1, (Value.int .i64 ((15 : Nat) : Int))), (5, (Value.int .i64 ((p : Nat) : Int))), (7, (Value.int .i64 ((x : Nat) : Int))), (19, v), (20, (Value.int .i64 ((c.length : Nat) : Int))), (21, (Value.int .i64 ((k : Nat) : Int))), (22, (Value.bool (decide (k < c.length)))), (30, (Value.bool (decide ((x < 0) ∨ (4096 < x)))))] L' ∧ Sat w [] w') ?_ ?_
      · refine CW.region ?_
        refine RT.ev rfl rfl (Ev.move rfl) <| RT.ev rfl rfl (Ev.lssN (b := 0) rfl rfl) <| RT.ev rfl rfl (Ev.move rfl) ?_
        by_cases hg_1 : x < 0
        · refine RT.no rfl rfl rfl (decide_eq_true hg_1) rfl ?_
          refine RT.no rfl rfl rfl (decide_eq_true hg_1) rfl ?_
          refine RT.ev rfl rfl (Ev.pickY rfl (decide_eq_true hg_1) rfl) ?_
          refine RT.nil ?_
          exact ⟨⟨rfl, rfl, rfl, rfl, rfl, rfl, rfl, congrArg some (congrArg Value.bool (by simp [hg_1])), trivial⟩, hs_2⟩
        · refine RT.yes rfl rfl rfl (decide_eq_false hg_1) ?_
          refine RT.ev rfl rfl (Ev.move rfl) ?_
          refine RT.yes rfl rfl rfl (decide_eq_false hg_1) ?_
          refine RT.ev rfl rfl (Ev.gtrN (b := 4096) rfl rfl) <| RT.ev rfl rfl (Ev.pickN rfl (decide_eq_false hg_1) rfl) ?_
          refine RT.nil ?_
          exact ⟨⟨rfl, rfl, rfl, rfl, rfl, rfl, rfl, congrArg some (congrArg Value.bool (by simp [hg_1])), trivial⟩, hs_2⟩
      · rintro L' w_3 ⟨hw_2, hs_3⟩
        refine CW.weaken _ hw_2 ?_
        refine CW.condF rfl (decide_eq_false (by have := hc x (mem_of_get hx); omega)) ?_
        refine CW.skip ?_
        refine CW.seq ?_
        refine CW.region ?_
        refine RT.ev rfl rfl (Ev.move rfl) <| RT.ev rfl rfl (Ev.gtrN (b := 0) rfl rfl) ?_
        refine RT.nil ?_
        refine CW.condD rfl (fun hc_2 => ?_) (fun hc_2 => ?_)
        · refine CW.region ?_
          refine RT.ev rfl rfl (Ev.move rfl) <| RT.ev rfl rfl (Ev.addI (b := 1) rfl rfl (by omega)) <| RT.ev rfl rfl (Ev.assign rfl) ?_
          refine RT.nil ?_
          refine CW.region ?_
          refine RT.ev rfl rfl (Ev.addI (b := 1) rfl rfl (by omega)) <| RT.ev rfl rfl (Ev.move rfl) ?_
          refine RT.nil ?_
          exact ⟨(k + 1, (p + 1)), ⟨rfl, rfl, rfl, rfl, rfl, trivial⟩, ⟨hs_3, by omega, by omega⟩, (show (c.length - (k + 1)) < (c.length - k) from by omega)⟩
        · refine CW.skip ?_
          refine CW.region ?_
          refine RT.ev rfl rfl (Ev.addI (b := 1) rfl rfl (by omega)) <| RT.ev rfl rfl (Ev.move rfl) ?_
          refine RT.nil ?_
          exact ⟨(k + 1, p), ⟨rfl, rfl, rfl, rfl, rfl, trivial⟩, ⟨hs_3, by omega, by omega⟩, (show (c.length - (k + 1)) < (c.length - k) from by omega)⟩
    · refine CW.exit0 ?_
      refine CW.seq ?_
      refine CW.seq ?_
      refine CW.region ?_
      refine RT.ev rfl rfl (Ev.move rfl) <| RT.ev rfl rfl (Ev.move rfl) <| RT.ev rfl rfl (Ev.shlI (a := 1) (b := 15) rfl rfl (by omega) (by omega)) <| RT.ev rfl rfl (Ev.gtrN rfl rfl) ?_
      refine RT.nil ?_
      refine CW.condF rfl (decide_eq_false (by omega)) ?_
      refine CW.skip ?_
      refine CW.seq ?_
      refine CW.region ?_
      refine RT.ev rfl rfl (Ev.assign rfl) ?_
      refine RT.nil ?_
      refine CW.ret ?_
      show PostK _ _ _ _ _ _
      refine post1 rfl rfl ?_
      exact ⟨rfl, hs_2⟩

theorem valid_ok (v : Value) (l : List Nat) (w : World) (hv : RdL w v (encN .i64) l) (hn : l.length ≤ 1024) :
    CallsV Try.prog 126 [v] w fun r w' => r = .bool (validB l) ∧ Sat w [] w' := by
  have hs0 := Sat.start w
  refine callsV_of Try.func126 rfl rfl ?_
  refine CW.seq ?_
  refine CW.region ?_
  refine RT.ev rfl rfl (Ev.assign rfl) ?_
  refine RT.nil ?_
  refine CW.seq ?_
  refine CW.seq ?_
  refine CW.region ?_
  refine RT.ev rfl rfl (Ev.move rfl) <| RT.ev rfl rfl (Ev.lenL Try.underlying22 rfl (hv.ext hs0.ext)) <| RT.ev rfl rfl (Ev.gtrN (b := 1024) rfl rfl) ?_
  refine RT.nil ?_
  refine CW.condF rfl (decide_eq_false (by omega)) ?_
  refine CW.skip ?_
  refine CW.seq ?_
  refine CW.region ?_
  refine RT.ev rfl rfl (Ev.assign rfl) ?_
  refine RT.nil ?_
  refine CW.seq ?_
  refine CW.seq ?_
  refine CW.region ?_
  refine RT.ev rfl rfl (Ev.move rfl) <| RT.ev rfl rfl (Ev.lenL Try.underlying22 rfl (hv.ext hs0.ext)) <| RT.ev rfl rfl (Ev.move rfl) ?_
  refine RT.nil ?_
  refine CW.block ?_
  refine CW.loop (α := Nat × Nat) (fun (k, s) => [(3, (Value.int .i64 ((s : Nat) : Int))), (9, v), (10, (Value.int .i64 ((l.length : Nat) : Int))), (11, (Value.int .i64 ((k : Nat) : Int)))]) (fun (k, s) w' => Sat w [] w' ∧ (k ≤ l.length) ∧ (s = ksum (l.take k)) ∧ (s ≤ k * 2 ^ 14) ∧ (∀ x ∈ l.take k, x ≤ 15)) (fun (k, s) => l.length - k) (0, 0) ⟨rfl, rfl, rfl, rfl, trivial⟩ ⟨hs0, Nat.zero_le _, rfl, Nat.zero_le _, by simp⟩ ?_
  rintro ⟨k, s⟩ w_1 ⟨hs_1, hk, hsum, hsb, hall⟩
  show CW _ _ _ _ [(3, (Value.int .i64 ((s : Nat) : Int))), (9, v), (10, (Value.int .i64 ((l.length : Nat) : Int))), (11, (Value.int .i64 ((k : Nat) : Int)))] _
  refine CW.seq ?_
  refine CW.region ?_
  refine RT.ev rfl rfl (Ev.lssN rfl rfl) ?_
  refine RT.nil ?_
  refine CW.seq ?_
  refine CW.condD rfl (fun hc_1 => ?_) (fun hc_1 => ?_)
  · refine CW.skip ?_
    refine CW.seq ?_
    refine CW.block ?_
    refine CW.seq ?_
    obtain ⟨x, hx⟩ : ∃ x, (l)[k]? = some x := ⟨_, List.getElem?_eq_getElem hc_1⟩
    refine CW.region ?_
    refine RT.ev rfl rfl (Ev.idxL (E := encN .i64) sl22 rfl rfl (hv.ext hs_1.ext) (by omega)) <| RT.ev rfl rfl (Ev.ldL (E := encN .i64) scal3 rfl (hv.ext hs_1.ext) hx (by decide) rfl) <| RT.ev rfl rfl (Ev.assign rfl) ?_
    refine RT.nil ?_
    refine CW.seq ?_
    refine CW.seq ?_
    refine CW.mid (fun L' w' => Weak [(3, (Value.int .i64 ((s : Nat) : Int))), (5, (Value.int .i64 ((x : Nat) : Int))), (9, v), (10, (Value.int .i64 ((l.length : Nat) : Int))), (11, (Value.int .i64 ((k : Nat) : Int))), (12, (Value.bool (decide (k < l.length)))), (20, (Value.bool (decide ((x < 0) ∨ (15 < x)))))] L' ∧ Sat w [] w') ?_ ?_
    · refine CW.region ?_
      refine RT.ev rfl rfl (Ev.move rfl) <| RT.ev rfl rfl (Ev.lssN (b := 0) rfl rfl) <| RT.ev rfl rfl (Ev.move rfl) ?_
      by_cases hg_1 : x < 0
      · refine RT.no rfl rfl rfl (decide_eq_true hg_1) rfl ?_
        refine RT.no rfl rfl rfl (decide_eq_true hg_1) rfl ?_
        refine RT.ev rfl rfl (Ev.pickY rfl (decide_eq_true hg_1) rfl) ?_
        refine RT.nil ?_
        exact ⟨⟨rfl, rfl, rfl, rfl, rfl, rfl, congrArg some (congrArg Value.bool (by simp [hg_1])), trivial⟩, hs_1⟩
      · refine RT.yes rfl rfl rfl (decide_eq_false hg_1) ?_
        refine RT.ev rfl rfl (Ev.move rfl) ?_
        refine RT.yes rfl rfl rfl (decide_eq_false hg_1) ?_
        refine RT.ev rfl rfl (Ev.gtrN (b := 15) rfl rfl) <| RT.ev rfl rfl (Ev.pickN rfl (decide_eq_false hg_1) rfl) ?_
        refine RT.nil ?_
        exact ⟨⟨rfl, rfl, rfl, rfl, rfl, rfl, congrArg some (congrArg Value.bool (by simp [hg_1])), trivial⟩, hs_1⟩
    · rintro L' w_2 ⟨hw_1, hs_2⟩
      refine CW.weaken _ hw_1 ?_
      refine CW.condD rfl (fun hc_2 => ?_) (fun hc_2 => ?_)
      · refine CW.seq ?_
        refine CW.region ?_
        refine RT.ev rfl rfl (Ev.assign rfl) ?_
        refine RT.nil ?_
        refine CW.ret ?_
        show PostK _ _ _ _ _ _
        refine post1 rfl rfl ?_
        exact ⟨by rw [validB_bad (mem_of_get hx) (by omega)], hs_2⟩
      · refine CW.skip ?_
        refine CW.seq ?_
        refine CW.region ?_
        refine RT.ev rfl rfl (Ev.move rfl) <| RT.ev rfl rfl (Ev.gtrN (b := 0) rfl rfl) ?_
        refine RT.nil ?_
        refine CW.condD rfl (fun hc_3 => ?_) (fun hc_3 => ?_)
        · have h2 : 2 ^ (15 - x) ≤ 2 ^ 14 := Nat.pow_le_pow_right (by decide) (by omega)
          refine CW.region ?_
          refine RT.ev rfl rfl (Ev.move rfl) <| RT.ev rfl rfl (Ev.move rfl) <| RT.ev rfl rfl (Ev.subI (a := 15) rfl rfl (by omega) (by omega)) <| RT.ev rfl rfl (Ev.shlI (a := 1) rfl rfl (by omega) (by omega)) <| RT.ev rfl rfl (Ev.addI rfl rfl (by omega)) <| RT.ev rfl rfl (Ev.assign rfl) ?_
          refine RT.nil ?_
          refine CW.region ?_
          refine RT.ev rfl rfl (Ev.addI (b := 1) rfl rfl (by omega)) <| RT.ev rfl rfl (Ev.move rfl) ?_
          refine RT.nil ?_
          exact ⟨(k + 1, (s + (1 * 2 ^ (15 - x)))), ⟨rfl, rfl, rfl, rfl, trivial⟩, ⟨hs_2, by omega, by rw [take_succ_of hx, ksum_append, ← hsum]; simp [ksum, kr, hc_3], by omega, all_take hall hx (by omega)⟩, (show (l.length - (k + 1)) < (l.length - k) from by omega)⟩
        · refine CW.skip ?_
          refine CW.region ?_
          refine RT.ev rfl rfl (Ev.addI (b := 1) rfl rfl (by omega)) <| RT.ev rfl rfl (Ev.move rfl) ?_
          refine RT.nil ?_
          exact ⟨(k + 1, s), ⟨rfl, rfl, rfl, rfl, trivial⟩, ⟨hs_2, by omega, by rw [take_succ_of hx, ksum_append, ← hsum]; simp [ksum, kr, hc_3], by omega, all_take hall hx (by omega)⟩, (show (l.length - (k + 1)) < (l.length - k) from by omega)⟩
  · refine CW.exit0 ?_
    refine CW.seq ?_
    refine CW.region ?_
    refine RT.ev rfl rfl (Ev.move rfl) <| RT.ev rfl rfl (Ev.leqN (b := 32768) rfl rfl) <| RT.ev rfl rfl (Ev.assign rfl) ?_
    refine RT.nil ?_
    refine CW.ret ?_
    show PostK _ _ _ _ _ _
    refine post1 rfl rfl ?_
    rw [show k = l.length by omega, List.take_length] at hsum hall
    exact ⟨by rw [validB_of hall, hsum], hs_1⟩

theorem clone_ok (v : Value) (l : List It) (w : World) (hv : RdL w v encIt l) (hn : l.length ≤ 1000000) (h0 : 0 < l.length) :
    CallsV Try.prog 173 [v] w fun r w' => Sat w [cL r 164 encIt l] w' := by
  have hs0 := Sat.start w
  refine callsV_of Try.func173 rfl rfl ?_
  refine CW.seq ?_
  refine CW.region ?_
  refine RT.ev rfl rfl (Ev.assign rfl) ?_
  refine RT.nil ?_
  refine CW.seq ?_
  refine CW.seq ?_
  refine CW.region ?_
  refine RT.ev rfl rfl (Ev.move rfl) <| RT.ev rfl rfl (Ev.eqlSlF Try.underlying161 rfl rfl (RdL.shp (E := encIt) (hv.ext hs0.ext) (by decide)) (by omega)) ?_
  refine RT.nil ?_
  refine CW.condF rfl (rfl) ?_
  refine CW.skip ?_
  refine CW.seq ?_
  refine CW.region ?_
  refine RT.eff rfl rfl (OpE.lit0 (encIt) sl161 hs0 fun v_1 w_1 hs_1 hch_1 => ?_)
  have hs_1d : Sat w [cL v_1 164 (encIt) ([])] _ := hs_1
  refine RT.ev rfl rfl (Ev.move rfl) ?_
  refine RT.eff rfl rfl (OpE.appendL 0 sl161 hs_1d rfl rfl rfl Try.underlying161 (hv.ext hs_1d.ext) (by simp; omega) (by simp; omega) fun v_2 w_2 hs_2 hch_2 => ?_)
  have hs_2d : Sat w [cL v_2 164 (encIt) (l)] _ := hs_2
  refine RT.ev rfl rfl (Ev.assign rfl) ?_
  refine RT.nil ?_
  refine CW.ret ?_
  show PostK _ _ _ _ _ _
  refine post1 rfl rfl ?_
  exact hs_2d

theorem leavesOf_ok (v : Value) (c : List Nat) (w : World) (hv : RdL w v (encN .i64) c) (hn : c.length ≤ 1024) (hc : ∀ x ∈ c, x ≤ 4096) :
    CallsV Try.prog 135 [v] w fun r w' => Sat w [cL r 164 encIt (leaves c)] w' := by
  have hs0 := Sat.start w
  refine callsV_of Try.func135 rfl rfl ?_
  refine CW.seq ?_
  refine CW.region ?_
  refine RT.ev rfl rfl (Ev.assign rfl) ?_
  refine RT.nil ?_
  refine CW.seq ?_
  refine CW.region ?_
  refine RT.ev rfl rfl (Ev.assign rfl) ?_
  refine RT.nil ?_
  refine CW.seq ?_
  refine CW.seq ?_
  refine CW.region ?_
  refine RT.ev rfl rfl (Ev.move rfl) <| RT.ev rfl rfl (Ev.lenL Try.underlying22 rfl (hv.ext hs0.ext)) <| RT.ev rfl rfl (Ev.move rfl) ?_
  refine RT.nil ?_
  refine CW.block ?_
  have hs_1 : Sat w [cL (Value.slice none 0 0) 164 (encIt) ([])] _ := hs0.newNilL 164 (encIt)
  refine CW.loop (α := Nat × Value) (fun (k, ov) => [(3, ov), (6, v), (7, (Value.int .i64 ((c.length : Nat) : Int))), (8, (Value.int .i64 ((k : Nat) : Int)))]) (fun (k, ov) w' => Sat w [cL ov 164 (encIt) (leafAt 0 (c.take k))] w' ∧ (k ≤ c.length)) (fun (k, ov) => c.length - k) (0, (.slice none 0 0)) ⟨rfl, rfl, rfl, rfl, trivial⟩ ⟨hs_1, Nat.zero_le _⟩ ?_
  rintro ⟨k, ov⟩ w_1 ⟨hs_2, hk⟩
  show CW _ _ _ _ [(3, ov), (6, v), (7, (Value.int .i64 ((c.length : Nat) : Int))), (8, (Value.int .i64 ((k : Nat) : Int)))] _
  refine CW.seq ?_
  refine CW.region ?_
  refine RT.ev rfl rfl (Ev.lssN rfl rfl) ?_
  refine RT.nil ?_
  refine CW.seq ?_
  refine CW.condD rfl (fun hc_1 => ?_) (fun hc_1 => ?_)
  · refine CW.skip ?_
    refine CW.seq ?_
    refine CW.block ?_
    refine CW.seq ?_
    obtain ⟨x, hx⟩ : ∃ x, (c)[k]? = some x := ⟨_, List.getElem?_eq_getElem hc_1⟩
    refine CW.region ?_
    refine RT.ev rfl rfl (Ev.move rfl) <| RT.ev rfl rfl (Ev.idxL (E := encN .i64) sl22 rfl rfl (hv.ext hs_2.ext) (by omega)) <| RT.ev rfl rfl (Ev.ldL (E := encN .i64) scal3 rfl (hv.ext hs_2.ext) hx (by decide) rfl) <| RT.ev rfl rfl (Ev.assign rfl) <| RT.ev rfl rfl (Ev.assign rfl) ?_
    refine RT.nil ?_
    refine CW.seq ?_
    refine CW.region ?_
    refine RT.ev rfl rfl (Ev.move rfl) <| RT.ev rfl rfl (Ev.gtrN (b := 0) rfl rfl) ?_
    refine RT.nil ?_
    refine CW.condD rfl (fun hc_2 => ?_) (fun hc_2 => ?_)
    · have hll := leafAt_length (c.take k) 0
      rw [List.length_take] at hll
      refine CW.region ?_
      refine RT.ev rfl rfl (Ev.move rfl) <| RT.ev rfl rfl (Ev.move rfl) <| RT.ev rfl rfl (Ev.move rfl) <| RT.ev rfl rfl (Ev.build bt164 rfl ⟨rfl, rfl, trivial⟩ rfl) ?_
      refine RT.eff rfl rfl (OpE.lit1A (encIt) (⟨x, k, 0, 0⟩ : It) sl161 (by decide) (by decide) hs_2 rfl fun v_1 w_2 hs_3 hch_1 => ?_)
      have hs_3d : Sat w [cL ov 164 (encIt) (leafAt 0 (c.take k)), cL v_1 164 (encIt) ([(⟨x, k, 0, 0⟩ : It)])] _ := hs_3
      refine RT.eff rfl rfl (OpE.appendL 0 sl161 hs_3d rfl rfl rfl Try.underlying161 (hs_3d.rdL 1 rfl) (by simp; omega) (by simp; omega) fun v_2 w_3 hs_4 hch_2 => ?_)
      have hs_4d : Sat w [cL v_2 164 (encIt) (leafAt 0 (c.take k) ++ [(⟨x, k, 0, 0⟩ : It)])] _ := hs_4.drop 1
      refine RT.ev rfl rfl (Ev.assign rfl) ?_
      refine RT.nil ?_
      refine CW.region ?_
      refine RT.ev rfl rfl (Ev.addI (b := 1) rfl rfl (by omega)) <| RT.ev rfl rfl (Ev.move rfl) ?_
      refine RT.nil ?_
      have hs_5 : Sat w [cL v_2 164 (encIt) (leafAt 0 (c.take (k + 1)))] w_3 := by
        have hq : leafAt 0 (c.take k) ++ [(⟨x, k, 0, 0⟩ : It)] = leafAt 0 (c.take (k + 1)) := by rw [take_succ_of hx, leafAt_snoc]; simp [hc_2]; try omega
        rw [← hq]; exact hs_4d
      exact ⟨(k + 1, v_2), ⟨rfl, rfl, rfl, rfl, trivial⟩, ⟨hs_5, by omega⟩, (show (c.length - (k + 1)) < (c.length - k) from by omega)⟩
    · refine CW.skip ?_
      refine CW.region ?_
      refine RT.ev rfl rfl (Ev.addI (b := 1) rfl rfl (by omega)) <| RT.ev rfl rfl (Ev.move rfl) ?_
      refine RT.nil ?_
      have hs_6 : Sat w [cL ov 164 (encIt) (leafAt 0 (c.take (k + 1)))] w_1 := by
        have hq : leafAt 0 (c.take k) = leafAt 0 (c.take (k + 1)) := by rw [take_succ_of hx, leafAt_snoc]; simp [hc_2]; try omega
        rw [← hq]; exact hs_2
      exact ⟨(k + 1, ov), ⟨rfl, rfl, rfl, rfl, trivial⟩, ⟨hs_6, by omega⟩, (show (c.length - (k + 1)) < (c.length - k) from by omega)⟩
  · refine CW.exit0 ?_
    refine CW.seq ?_
    have hs_7 : Sat w [cL ov 164 (encIt) (leafAt 0 c)] w_1 := by
      have hq : leafAt 0 (c.take k) = leafAt 0 c := by rw [show k = c.length by omega, List.take_length]
      rw [← hq]; exact hs_2
    refine CW.region ?_
    refine RT.ev rfl rfl (Ev.move rfl) ?_
    have hA_1 : Sat w ([cL ov 164 (encIt) (leafAt 0 c)] ++ ([] ++ [])) _ := (Sat.order [0] (by decide) hs_7.tail).cut 1
    refine RT.eff rfl rfl (OpE.call ent171 rfl ((srtIt w _ _ ov (leafAt 0 c) (It.w) (fun x : It => x.w < 2 ^ 62) 172 #[] ent172 (fun _ w _ a b ha hb => lcmp_ok a b w ha hb) hA_1 (fun x hx => by have := hc _ (leafAt_mem _ _ x hx).1; show x.w < 2 ^ 62; omega) (by have := leafAt_length c 0; omega)).mono fun r_1 w_4 h_1 => ?_))
    obtain ⟨rfl, hp_1⟩ := h_1
    have hs_8 : Sat w [cL ov 164 (encIt) (ssort (It.w) (leafAt 0 c))] _ := (Sat.order [0] (by decide) hp_1.join).untail
    refine RT.nil ?_
    refine CW.seq ?_
    refine CW.region ?_
    refine RT.ev rfl rfl (Ev.move rfl) <| RT.ev rfl rfl (Ev.assign rfl) ?_
    refine RT.nil ?_
    refine CW.ret ?_
    show PostK _ _ _ _ _ _
    refine post1 rfl rfl ?_
    exact hs_8

theorem icmp_ok (a b g : Nat) (v : Value) (l : List Nat) (w : World) (hc : w.cell? ⟨g, 0, none⟩ = some v) (hv : RdL w v (encN .i64) l) (hb : ∀ x ∈ l, x < 2 ^ 62) (ha : a < l.length) (hb2 : b < l.length) :
    CallsV Try.prog 195 [(Value.int .i64 ((a : Nat) : Int)), (Value.int .i64 ((b : Nat) : Int)), (Value.pointer (some ⟨g, 0, none⟩))] w fun r w' => ∃ z : Int, r = .int .i64 z ∧ (z < 0 ↔ l.getD a 0 < l.getD b 0) ∧ Sat w [] w' := by
  have hs0 := Sat.start w
  refine callsV_of Try.func195 rfl rfl ?_
  refine CW.seq ?_
  refine CW.region ?_
  refine RT.ev rfl rfl (Ev.assign rfl) ?_
  refine RT.nil ?_
  refine CW.seq ?_
  obtain ⟨x, hx⟩ : ∃ x, (l)[a]? = some x := ⟨_, List.getElem?_eq_getElem (ha)⟩
  obtain ⟨y, hy⟩ : ∃ y, (l)[b]? = some y := ⟨_, List.getElem?_eq_getElem (hb2)⟩
  have h1 := hb x (mem_of_get hx)
  have h2 := hb y (mem_of_get hy)
  refine CW.draw (fun w' => Sat w [] w') (.free 0 (.free 1 (.free 2 (.free 3 (.free 4 (.free 5 (.free 6 (.free 7 (.free 8 (.free 9 .fin)))))))))) mixed (by kernel_rfl) ?_
  have hs_1 := hs0.drew
  refine RP.ev rfl rfl rfl (fun w' hS' => Ev.load scal22 rfl (hS'.ext _ _ hc)) hs_1 ?_
  refine RP.ev rfl rfl rfl (fun w' hS' => Ev.move rfl) hs_1 ?_
  refine RP.ev rfl rfl rfl (fun w' hS' => Ev.idxL (E := encN .i64) sl22 rfl rfl (hv.ext hS'.ext) (by omega)) hs_1 ?_
  refine RP.ev rfl rfl rfl (fun w' hS' => Ev.ldL (E := encN .i64) scal3 rfl (hv.ext hS'.ext) hx (by decide) rfl) hs_1 ?_
  refine RP.ev rfl rfl rfl (fun w' hS' => Ev.load scal22 rfl (hS'.ext _ _ hc)) hs_1 ?_
  refine RP.ev rfl rfl rfl (fun w' hS' => Ev.move rfl) hs_1 ?_
  refine RP.ev rfl rfl rfl (fun w' hS' => Ev.idxL (E := encN .i64) sl22 rfl rfl (hv.ext hS'.ext) (by omega)) hs_1 ?_
  refine RP.ev rfl rfl rfl (fun w' hS' => Ev.ldL (E := encN .i64) scal3 rfl (hv.ext hS'.ext) hy (by decide) rfl) hs_1 ?_
  refine RP.ev rfl rfl rfl (fun w' hS' => Ev.sub rfl rfl (by unfold inI64; omega)) hs_1 ?_
  refine RP.ev rfl rfl rfl (fun w' hS' => Ev.assign rfl) hs_1 ?_
  refine RP.fin ?_
  refine CW.ret ?_
  show PostK _ _ _ _ _ _
  refine post1 rfl rfl ?_
  have hs_2 : Sat w [] w.drew := hs_1.sub (.slnil)
  exact ⟨_, rfl, by rw [List.getD_eq_getElem?_getD, List.getD_eq_getElem?_getD, hx, hy]; simp only [Option.getD_some]; omega, hs_2⟩

theorem inOrder_ok (v : Value) (l : List Nat) (w : World) (hv : RdL w v (encN .i64) l) (hn : l.length ≤ 1024) (hb : ∀ x ∈ l, x < 2 ^ 62) :
    CallsV Try.prog 168 [v] w fun r w' => Sat w [cL r 3 (encN .i64) (inOrd l)] w' := by
  have hs0 := Sat.start w
  refine callsV_of Try.func168 rfl rfl ?_
  refine CW.seq ?_
  refine CW.region ?_
  refine RT.eff rfl rfl (OpE.box hs0 rfl fun b_1 w_1 hs_1 hch_1 hb_1 => ?_)
  have hs_1d : Sat w [cObj b_1 22 [v]] w_1 := by
    have hq := cells_one ((hv.ext hs0.ext).oneCell)
    rw [hq] at hs_1; exact hs_1
  refine RT.ev rfl rfl (Ev.assign rfl) ?_
  refine RT.nil ?_
  refine CW.seq ?_
  refine CW.region ?_
  refine RT.ev rfl rfl (Ev.assign rfl) ?_
  refine RT.nil ?_
  refine CW.seq ?_
  refine CW.seq ?_
  refine CW.region ?_
  refine RT.ev rfl rfl (Ev.load scal22 rfl (hs_1d.cell (i := 0) (j := 0) rfl rfl)) <| RT.ev rfl rfl (Ev.lenL Try.underlying22 rfl (hv.ext hs_1d.ext)) <| RT.ev rfl rfl (Ev.move rfl) ?_
  refine RT.nil ?_
  refine CW.block ?_
  have hs_2 : Sat w [cObj b_1 22 [v], cL (Value.slice none 0 0) 3 (encN .i64) ([])] _ := hs_1d.newNilL 3 (encN .i64)
  refine CW.loop (α := Nat × Value) (fun (k, ov) => [(1, (Value.pointer (some ⟨b_1, 0, none⟩))), (3, ov), (6, v), (7, (Value.int .i64 ((l.length : Nat) : Int))), (8, (Value.int .i64 ((k : Nat) : Int)))]) (fun (k, ov) w' => Sat w [cObj b_1 22 [v], cL ov 3 (encN .i64) (presAt 0 (l.take k))] w' ∧ (k ≤ l.length)) (fun (k, ov) => l.length - k) (0, (.slice none 0 0)) ⟨rfl, rfl, rfl, rfl, rfl, trivial⟩ ⟨hs_2, Nat.zero_le _⟩ ?_
  rintro ⟨k, ov⟩ w_2 ⟨hs_3, hk⟩
  show CW _ _ _ _ [(1, (Value.pointer (some ⟨b_1, 0, none⟩))), (3, ov), (6, v), (7, (Value.int .i64 ((l.length : Nat) : Int))), (8, (Value.int .i64 ((k : Nat) : Int)))] _
  refine CW.seq ?_
  refine CW.region ?_
  refine RT.ev rfl rfl (Ev.lssN rfl rfl) ?_
  refine RT.nil ?_
  refine CW.seq ?_
  refine CW.condD rfl (fun hc_1 => ?_) (fun hc_1 => ?_)
  · refine CW.skip ?_
    refine CW.seq ?_
    refine CW.block ?_
    refine CW.seq ?_
    obtain ⟨x, hx⟩ : ∃ x, (l)[k]? = some x := ⟨_, List.getElem?_eq_getElem hc_1⟩
    refine CW.region ?_
    refine RT.ev rfl rfl (Ev.move rfl) <| RT.ev rfl rfl (Ev.idxL (E := encN .i64) sl22 rfl rfl (hv.ext hs_3.ext) (by omega)) <| RT.ev rfl rfl (Ev.ldL (E := encN .i64) scal3 rfl (hv.ext hs_3.ext) hx (by decide) rfl) <| RT.ev rfl rfl (Ev.assign rfl) <| RT.ev rfl rfl (Ev.assign rfl) ?_
    refine RT.nil ?_
    refine CW.seq ?_
    refine CW.region ?_
    refine RT.ev rfl rfl (Ev.move rfl) <| RT.ev rfl rfl (Ev.gtrN (b := 0) rfl rfl) ?_
    refine RT.nil ?_
    refine CW.condD rfl (fun hc_2 => ?_) (fun hc_2 => ?_)
    · have hll := presAt_length (l.take k) 0
      rw [List.length_take] at hll
      refine CW.region ?_
      refine RT.ev rfl rfl (Ev.move rfl) <| RT.ev rfl rfl (Ev.move rfl) ?_
      refine RT.eff rfl rfl (OpE.lit1 (encN .i64) k sl22 rfl hs_3 rfl fun v_1 w_3 hs_4 hch_2 => ?_)
      have hs_4d : Sat w [cObj b_1 22 [v], cL ov 3 (encN .i64) (presAt 0 (l.take k)), cL v_1 3 (encN .i64) ([k])] _ := hs_4
      refine RT.eff rfl rfl (OpE.appendL 1 sl22 hs_4d rfl rfl rfl Try.underlying22 (hs_4d.rdL 2 rfl) (by simp; omega) (by simp; omega) fun v_2 w_4 hs_5 hch_3 => ?_)
      have hs_5d : Sat w [cObj b_1 22 [v], cL v_2 3 (encN .i64) (presAt 0 (l.take k) ++ [k])] _ := hs_5.drop 2
      refine RT.ev rfl rfl (Ev.assign rfl) ?_
      refine RT.nil ?_
      refine CW.region ?_
      refine RT.ev rfl rfl (Ev.addI (b := 1) rfl rfl (by omega)) <| RT.ev rfl rfl (Ev.move rfl) ?_
      refine RT.nil ?_
      have hs_6 : Sat w [cObj b_1 22 [v], cL v_2 3 (encN .i64) (presAt 0 (l.take (k + 1)))] w_4 := by
        have hq : presAt 0 (l.take k) ++ [k] = presAt 0 (l.take (k + 1)) := by rw [take_succ_of hx, presAt_snoc]; simp [hc_2]; try omega
        rw [← hq]; exact hs_5d
      exact ⟨(k + 1, v_2), ⟨rfl, rfl, rfl, rfl, rfl, trivial⟩, ⟨hs_6, by omega⟩, (show (l.length - (k + 1)) < (l.length - k) from by omega)⟩
    · refine CW.skip ?_
      refine CW.region ?_
      refine RT.ev rfl rfl (Ev.addI (b := 1) rfl rfl (by omega)) <| RT.ev rfl rfl (Ev.move rfl) ?_
      refine RT.nil ?_
      have hs_7 : Sat w [cObj b_1 22 [v], cL ov 3 (encN .i64) (presAt 0 (l.take (k + 1)))] w_2 := by
        have hq : presAt 0 (l.take k) = presAt 0 (l.take (k + 1)) := by rw [take_succ_of hx, presAt_snoc]; simp [hc_2]; try omega
        rw [← hq]; exact hs_3
      exact ⟨(k + 1, ov), ⟨rfl, rfl, rfl, rfl, rfl, trivial⟩, ⟨hs_7, by omega⟩, (show (l.length - (k + 1)) < (l.length - k) from by omega)⟩
  · refine CW.exit0 ?_
    refine CW.seq ?_
    have hs_8 : Sat w [cObj b_1 22 [v], cL ov 3 (encN .i64) (presAt 0 l)] w_2 := by
      have hq : presAt 0 (l.take k) = presAt 0 l := by rw [show k = l.length by omega, List.take_length]
      rw [← hq]; exact hs_3
    refine CW.region ?_
    refine RT.ev rfl rfl (Ev.move rfl) <| RT.ev rfl rfl (Ev.makeFunc1 rfl) ?_
    have hA_1 : Sat w ([cL ov 3 (encN .i64) (presAt 0 l)] ++ ([cObj b_1 22 [v]] ++ [])) _ := (Sat.order [1, 0] (by decide) hs_8.tail).cut 1
    refine RT.eff rfl rfl (OpE.call ent93 rfl ((srtIn w _ _ ov (presAt 0 l) (lenKey l) (fun i => i < l.length) 195 #[(Value.pointer (some ⟨b_1, 0, none⟩))] ent195 (fun _ w' hq a b ha hb2 => icmp_ok a b _ v l w' (hq.cell (i := 1) (j := 0) rfl rfl) (hv.ext hq.ext) hb ha hb2) hA_1 (fun x hx => by have := presAt_mem _ _ x hx; omega) (by have := presAt_length l 0; omega)).mono fun r_1 w_5 h_1 => ?_))
    obtain ⟨rfl, hp_1⟩ := h_1
    have hs_9 : Sat w [cObj b_1 22 [v], cL ov 3 (encN .i64) (ssort (lenKey l) (presAt 0 l))] _ := (Sat.order [1, 0] (by decide) hp_1.join).untail
    refine RT.nil ?_
    refine CW.seq ?_
    refine CW.region ?_
    refine RT.ev rfl rfl (Ev.move rfl) <| RT.ev rfl rfl (Ev.assign rfl) ?_
    refine RT.nil ?_
    refine CW.ret ?_
    show PostK _ _ _ _ _ _
    refine post1 rfl rfl ?_
    have hs_10 : Sat w [cL ov 3 (encN .i64) (ssort (lenKey l) (presAt 0 l))] w_5 := hs_9.sub ((.cons _ (.cons_cons _ .slnil)))
    exact hs_10

theorem codesOf_ok (v : Value) (l : List Nat) (w : World) (hv : RdL w v (encN .i64) l) (hn : l.length ≤ 1024) (hb : ∀ x ∈ l, x ≤ 15) :
    CallsV Try.prog 137 [v] w fun r w' => Sat w [cL r 108 (encN .u64) (codesN l)] w' := by
  have hs0 := Sat.start w
  refine callsV_of Try.func137 rfl rfl ?_
  refine CW.seq ?_
  refine CW.region ?_
  refine RT.ev rfl rfl (Ev.assign rfl) ?_
  refine RT.nil ?_
  refine CW.seq ?_
  have hil := inOrd_length l
  refine CW.region ?_
  refine RT.ev rfl rfl (Ev.move rfl) <| RT.ev rfl rfl (Ev.lenL Try.underlying22 rfl (hv.ext hs0.ext)) ?_
  refine RT.eff rfl rfl (OpE.makeL (encN .u64) (0) sl167 rfl hs0 rfl rfl (by omega) (by omega) (by omega) fun v_1 w_1 hs_1 hch_1 => ?_)
  have hs_1d : Sat w [cL v_1 108 (encN .u64) (List.replicate (l.length) 0)] _ := hs_1
  refine RT.ev rfl rfl (Ev.assign rfl) ?_
  refine RT.nil ?_
  refine CW.seq ?_
  refine CW.region ?_
  refine RT.ev rfl rfl (Ev.assign rfl) <| RT.ev rfl rfl (Ev.assign rfl) ?_
  refine RT.nil ?_
  refine CW.seq ?_
  refine CW.seq ?_
  refine CW.region ?_
  refine RT.ev rfl rfl (Ev.move rfl) ?_
  refine RT.eff rfl rfl (OpE.call ent168 rfl ((inOrder_ok _ (l) _ (hv.ext hs_1d.ext) (hn) (fun x hx => by have := hb x hx; omega)).mono fun r_1 w_2 h_1 => ?_))
  have hp_1 := h_1
  have hs_2 : Sat w [cL v_1 108 (encN .u64) (List.replicate (l.length) 0), cL r_1 3 (encN .i64) (inOrd (l))] _ := hs_1d.adds hp_1
  refine RT.ev rfl rfl (Ev.lenL Try.underlying22 rfl (hs_2.rdL 1 rfl)) <| RT.ev rfl rfl (Ev.move rfl) ?_
  refine RT.nil ?_
  refine CW.block ?_
  refine CW.loop (α := Nat × Nat × Nat × List Nat) (fun (k, code, bef, cds) => [(0, v), (3, v_1), (4, (Value.int .u64 ((code : Nat) : Int))), (5, (Value.int .i64 ((bef : Nat) : Int))), (12, r_1), (13, (Value.int .i64 (((inOrd (l)).length : Nat) : Int))), (14, (Value.int .i64 ((k : Nat) : Int)))]) (fun (k, code, bef, cds) w' => Sat w [cL v_1 108 (encN .u64) (cds), cL r_1 3 (encN .i64) (inOrd (l))] w' ∧ (k ≤ (inOrd l).length) ∧ (cdSt l ((inOrd l).take k) = (k, code, bef, cds)) ∧ (code < 2 ^ 64) ∧ (cds.length = l.length) ∧ (∀ j y, k ≤ j → (inOrd l)[j]? = some y → bef ≤ lenKey l y)) (fun (k, code, bef, cds) => (inOrd l).length - k) (0, 0, 0, List.replicate l.length 0) ⟨rfl, rfl, rfl, rfl, rfl, rfl, rfl, trivial⟩ ⟨hs_2, Nat.zero_le _, rfl, by omega, by simp, fun _ _ _ _ => Nat.zero_le _⟩ ?_
  rintro ⟨k, code, bef, cds⟩ w_3 ⟨hs_3, hk, hst, hcd, hcl, hbef⟩
  show CW _ _ _ _ [(0, v), (3, v_1), (4, (Value.int .u64 ((code : Nat) : Int))), (5, (Value.int .i64 ((bef : Nat) : Int))), (12, r_1), (13, (Value.int .i64 (((inOrd (l)).length : Nat) : Int))), (14, (Value.int .i64 ((k : Nat) : Int)))] _
  refine CW.seq ?_
  refine CW.region ?_
  refine RT.ev rfl rfl (Ev.lssN rfl rfl) ?_
  refine RT.nil ?_
  refine CW.seq ?_
  refine CW.condD rfl (fun hc_1 => ?_) (fun hc_1 => ?_)
  · refine CW.skip ?_
    refine CW.seq ?_
    refine CW.block ?_
    refine CW.seq ?_
    obtain ⟨x, hx⟩ : ∃ x, (inOrd (l))[k]? = some x := ⟨_, List.getElem?_eq_getElem (hc_1)⟩
    have hxm := inOrd_mem l x (mem_of_get hx)
    obtain ⟨n, hn1⟩ : ∃ n, l[x]? = some n := ⟨_, List.getElem?_eq_getElem hxm.1⟩
    have hnk : lenKey l x = n := by simp [lenKey, List.getD_eq_getElem?_getD, hn1]
    have hbn := hbef k x (Nat.le_refl _) hx
    have hn15 := hb n (mem_of_get hn1)
    refine CW.region ?_
    refine RT.ev rfl rfl (Ev.move rfl) <| RT.ev rfl rfl (Ev.idxL (E := encN .i64) sl22 rfl rfl (hs_3.rdL 1 rfl) (by omega)) <| RT.ev rfl rfl (Ev.ldL (E := encN .i64) scal3 rfl (hs_3.rdL 1 rfl) hx (by decide) rfl) <| RT.ev rfl rfl (Ev.assign rfl) <| RT.ev rfl rfl (Ev.assign rfl) ?_
    refine RT.nil ?_
    refine CW.seq ?_
    refine CW.seq ?_
    refine CW.region ?_
    refine RT.ev rfl rfl (Ev.move rfl) <| RT.ev rfl rfl (Ev.gtrN (b := 0) rfl rfl) ?_
    refine RT.nil ?_
    refine CW.condD rfl (fun hc_2 => ?_) (fun hc_2 => ?_)
    · refine CW.region ?_
      refine RT.ev rfl rfl (Ev.move rfl) <| RT.ev rfl rfl (Ev.addN (b := 1) rfl rfl rfl) <| RT.ev rfl rfl (Ev.move rfl) <| RT.ev rfl rfl (Ev.move rfl) <| RT.ev rfl rfl (Ev.idxL (E := encN .i64) sl22 rfl rfl (hv.ext hs_3.ext) (by omega)) <| RT.ev rfl rfl (Ev.ldL (E := encN .i64) scal3 rfl (hv.ext hs_3.ext) hn1 (by decide) rfl) <| RT.ev rfl rfl (Ev.move rfl) <| RT.ev rfl rfl (Ev.subI rfl rfl (by omega) (by omega)) <| RT.ev rfl rfl (Ev.shlN rfl rfl rfl (by (try simp only [IntKind.bits]); omega)) <| RT.ev rfl rfl (Ev.assign rfl) ?_
      refine RT.nil ?_
      refine CW.region ?_
      refine RT.ev rfl rfl (Ev.move rfl) <| RT.ev rfl rfl (Ev.move rfl) <| RT.ev rfl rfl (Ev.move rfl) <| RT.ev rfl rfl (Ev.move rfl) <| RT.ev rfl rfl (Ev.move rfl) <| RT.ev rfl rfl (Ev.idxL (E := encN .i64) sl22 rfl rfl (hv.ext hs_3.ext) (by omega)) <| RT.ev rfl rfl (Ev.ldL (E := encN .i64) scal3 rfl (hv.ext hs_3.ext) hn1 (by decide) rfl) <| RT.ev rfl rfl (Ev.idxL (E := encN .u64) sl167 rfl rfl (hs_3.rdL 0 rfl) (by omega)) ?_
      refine RT.eff rfl rfl (OpE.setL (a := (((code + 1) % 2 ^ 64) * 2 ^ (n - bef) % 2 ^ 64)) 0 one108 hs_3 rfl rfl rfl rfl (by omega) fun w_4 hs_4 hch_2 => ?_)
      have hs_4d : Sat w [cL v_1 108 (encN .u64) (cds.set x (((code + 1) % 2 ^ 64) * 2 ^ (n - bef) % 2 ^ 64)), cL r_1 3 (encN .i64) (inOrd (l))] _ := hs_4
      refine RT.ev rfl rfl (Ev.assign rfl) ?_
      refine RT.nil ?_
      refine CW.region ?_
      refine RT.ev rfl rfl (Ev.addI (b := 1) rfl rfl (by omega)) <| RT.ev rfl rfl (Ev.move rfl) ?_
      refine RT.nil ?_
      exact ⟨(k + 1, (((code + 1) % 2 ^ 64) * 2 ^ (n - bef) % 2 ^ 64), n, cds.set x (((code + 1) % 2 ^ 64) * 2 ^ (n - bef) % 2 ^ 64)), ⟨rfl, rfl, rfl, rfl, rfl, rfl, rfl, trivial⟩, ⟨hs_4d, by omega, by rw [take_succ_of hx, cdSt_snoc, hst]; simp [cdStep, hnk, hc_2]; try omega, by omega, by simp only [List.length_set]; exact hcl, fun j y hj hy => by rw [← hnk]; exact (ssort_srt _).get (by omega) hx hy⟩, (show ((inOrd l).length - (k + 1)) < ((inOrd l).length - k) from by omega)⟩
    · refine CW.skip ?_
      refine CW.region ?_
      refine RT.ev rfl rfl (Ev.move rfl) <| RT.ev rfl rfl (Ev.move rfl) <| RT.ev rfl rfl (Ev.move rfl) <| RT.ev rfl rfl (Ev.move rfl) <| RT.ev rfl rfl (Ev.move rfl) <| RT.ev rfl rfl (Ev.idxL (E := encN .i64) sl22 rfl rfl (hv.ext hs_3.ext) (by omega)) <| RT.ev rfl rfl (Ev.ldL (E := encN .i64) scal3 rfl (hv.ext hs_3.ext) hn1 (by decide) rfl) <| RT.ev rfl rfl (Ev.idxL (E := encN .u64) sl167 rfl rfl (hs_3.rdL 0 rfl) (by omega)) ?_
      refine RT.eff rfl rfl (OpE.setL (a := code) 0 one108 hs_3 rfl rfl rfl rfl (by omega) fun w_5 hs_5 hch_3 => ?_)
      have hs_5d : Sat w [cL v_1 108 (encN .u64) (cds.set x code), cL r_1 3 (encN .i64) (inOrd (l))] _ := hs_5
      refine RT.ev rfl rfl (Ev.assign rfl) ?_
      refine RT.nil ?_
      refine CW.region ?_
      refine RT.ev rfl rfl (Ev.addI (b := 1) rfl rfl (by omega)) <| RT.ev rfl rfl (Ev.move rfl) ?_
      refine RT.nil ?_
      exact ⟨(k + 1, code, n, cds.set x code), ⟨rfl, rfl, rfl, rfl, rfl, rfl, rfl, trivial⟩, ⟨hs_5d, by omega, by rw [take_succ_of hx, cdSt_snoc, hst]; simp [cdStep, hnk, hc_2]; try omega, by omega, by simp only [List.length_set]; exact hcl, fun j y hj hy => by rw [← hnk]; exact (ssort_srt _).get (by omega) hx hy⟩, (show ((inOrd l).length - (k + 1)) < ((inOrd l).length - k) from by omega)⟩
  · refine CW.exit0 ?_
    refine CW.seq ?_
    refine CW.region ?_
    refine RT.ev rfl rfl (Ev.move rfl) <| RT.ev rfl rfl (Ev.assign rfl) ?_
    refine RT.nil ?_
    refine CW.ret ?_
    show PostK _ _ _ _ _ _
    refine post1 rfl rfl ?_
    have hs_6 : Sat w [cL v_1 108 (encN .u64) (cds)] w_3 := hs_3.sub ((.cons_cons _ (.cons _ .slnil)))
    have hs_7 : Sat w [cL v_1 108 (encN .u64) (codesN l)] w_3 := by
      have hq : cds = codesN l := by unfold codesN; rw [show inOrd l = (inOrd l).take k by rw [show k = (inOrd l).length by omega, List.take_length], hst]
      rw [← hq]; exact hs_6
    exact hs_7

theorem next_ok (v u : Value) (l b : List It) (W : Nat) (w : World) (hv : RdL w v encIt l) (hu : RdL w u encIt b) (hn : l.length ≤ 4096) (hl0 : 0 < l.length) (hbn : b.length ≤ 8192) (hwl : ∀ x ∈ l, x.w ≤ W) (hwb : ∀ x ∈ b, x.w ≤ W) (hW : W ≤ 2 ^ 50) :
    CallsV Try.prog 136 [v, u] w fun r w' => Sat w [cL r 164 encIt (nextL l b)] w' := by
  have hs0 := Sat.start w
  refine callsV_of Try.func136 rfl rfl ?_
  refine CW.seq ?_
  refine CW.region ?_
  refine RT.ev rfl rfl (Ev.assign rfl) ?_
  refine RT.nil ?_
  refine CW.seq ?_
  refine CW.region ?_
  refine RT.ev rfl rfl (Ev.move rfl) ?_
  refine RT.eff rfl rfl (OpE.call ent173 rfl ((clone_ok _ (l) _ (hv.ext hs0.ext) (by omega) (by omega)).mono fun r_1 w_1 h_1 => ?_))
  have hp_1 := h_1
  have hs_1 : Sat w [cL r_1 164 (encIt) (l)] _ := hs0.adds hp_1
  refine RT.ev rfl rfl (Ev.assign rfl) ?_
  refine RT.nil ?_
  refine CW.seq ?_
  refine CW.seq ?_
  refine CW.region ?_
  refine RT.ev rfl rfl (Ev.assign rfl) ?_
  refine RT.nil ?_
  refine CW.block ?_
  have hs_2 : Sat w [cL r_1 164 (encIt) (l ++ pkgAt 0 (b.take (2 * 0)))] w_1 := by
    have hq : l = l ++ pkgAt 0 (b.take (2 * 0)) := by simp [pkgAt]
    rw [← hq]; exact hs_1
  refine CW.loop (α := Nat × Value) (fun (q, ov) => [(1, u), (5, ov), (6, (Value.int .i64 (((2 * q) : Nat) : Int)))]) (fun (q, ov) w' => Sat w [cL ov 164 (encIt) (l ++ pkgAt 0 (b.take (2 * q)))] w' ∧ (2 * q ≤ b.length)) (fun (q, ov) => b.length - 2 * q) (0, r_1) ⟨rfl, rfl, rfl, trivial⟩ ⟨hs_2, Nat.zero_le _⟩ ?_
  rintro ⟨q, ov⟩ w_2 ⟨hs_3, hq⟩
  show CW _ _ _ _ [(1, u), (5, ov), (6, (Value.int .i64 (((2 * q) : Nat) : Int)))] _
  refine CW.seq ?_
  refine CW.seq ?_
  refine CW.region ?_
  refine RT.ev rfl rfl (Ev.move rfl) <| RT.ev rfl rfl (Ev.addI (b := 1) rfl rfl (by omega)) <| RT.ev rfl rfl (Ev.move rfl) <| RT.ev rfl rfl (Ev.lenL Try.underlying161 rfl (hu.ext hs_3.ext)) <| RT.ev rfl rfl (Ev.lssN rfl rfl) ?_
  refine RT.nil ?_
  refine CW.condD rfl (fun hc_1 => ?_) (fun hc_1 => ?_)
  · refine CW.skip ?_
    refine CW.seq ?_
    refine CW.block ?_
    obtain ⟨x, hx⟩ : ∃ x, (b)[(2 * q)]? = some x := ⟨_, List.getElem?_eq_getElem (by omega)⟩
    obtain ⟨y, hy⟩ : ∃ y, (b)[((2 * q) + 1)]? = some y := ⟨_, List.getElem?_eq_getElem (by omega)⟩
    have h1 := hwb x (mem_of_get hx)
    have h2 := hwb y (mem_of_get hy)
    have hpl := pkgAt_length 0 (b.take (2 * q))
    rw [List.length_take] at hpl
    have hshp_1 := (hs_3.rdL (E := encIt) 0 rfl).shp (by decide)
    refine CW.draw (fun w' => Sat w [] w') (.free 0 (.free 1 (.free 2 (.free 3 (.free 4 (.free 5 (.free 6 (.free 7 (.free 8 (.free 9 (.free 10 (.free 11 (.free 12 (.free 13 (.free 14 (.free 15 (.free 16 (.one 17 (.one 18 (.free 19 .fin)))))))))))))))))))) mixed (by kernel_rfl) ?_
    have hs_4 := hs_3.drew
    have hS_1 : Sat w [] _ := hs_4.sub ((.cons _ .slnil))
    refine RP.ev rfl rfl rfl (fun w' hS' => Ev.move rfl) hS_1 ?_
    refine RP.ev rfl rfl rfl (fun w' hS' => Ev.move rfl) hS_1 ?_
    refine RP.ev rfl rfl rfl (fun w' hS' => Ev.move rfl) hS_1 ?_
    refine RP.ev rfl rfl rfl (fun w' hS' => Ev.idxL (E := encIt) sl161 rfl rfl (hu.ext hS'.ext) (by omega)) hS_1 ?_
    refine RP.ev rfl rfl rfl (fun w' hS' => Ev.fldL (E := encIt) fld164_0 rfl (hu.ext hS'.ext) (by omega) (by decide)) hS_1 ?_
    refine RP.ev rfl rfl rfl (fun w' hS' => Ev.ldLF (E := encIt) scal3 rfl (hu.ext hS'.ext) hx (by decide) rfl) hS_1 ?_
    refine RP.ev rfl rfl rfl (fun w' hS' => Ev.move rfl) hS_1 ?_
    refine RP.ev rfl rfl rfl (fun w' hS' => Ev.move rfl) hS_1 ?_
    refine RP.ev rfl rfl rfl (fun w' hS' => Ev.addI (b := 1) rfl rfl (by omega)) hS_1 ?_
    refine RP.ev rfl rfl rfl (fun w' hS' => Ev.idxL (E := encIt) sl161 rfl rfl (hu.ext hS'.ext) (by omega)) hS_1 ?_
    refine RP.ev rfl rfl rfl (fun w' hS' => Ev.fldL (E := encIt) fld164_0 rfl (hu.ext hS'.ext) (by omega) (by decide)) hS_1 ?_
    refine RP.ev rfl rfl rfl (fun w' hS' => Ev.ldLF (E := encIt) scal3 rfl (hu.ext hS'.ext) hy (by decide) rfl) hS_1 ?_
    refine RP.ev rfl rfl rfl (fun w' hS' => Ev.addI rfl rfl (by omega)) hS_1 ?_
    refine RP.ev rfl rfl rfl (fun w' hS' => Ev.move rfl) hS_1 ?_
    refine RP.ev rfl rfl rfl (fun w' hS' => Ev.move rfl) hS_1 ?_
    refine RP.ev rfl rfl rfl (fun w' hS' => Ev.addI (b := 1) rfl rfl (by omega)) hS_1 ?_
    refine RP.ev rfl rfl rfl (fun w' hS' => Ev.build bt164 rfl ⟨rfl, rfl, rfl, rfl, trivial⟩ rfl) hS_1 ?_
    refine RP.eff rfl rfl rfl (OpE.lit1A (encIt) (⟨x.w + y.w, -1, 2 * q, 2 * q + 1⟩ : It) sl161 (by decide) (by decide) hs_4 rfl fun v_1 w_3 hs_5 hch_1 => ?_)
    have hs_5d : Sat w [cL ov 164 (encIt) (l ++ pkgAt 0 (b.take (2 * q))), cL v_1 164 (encIt) ([(⟨x.w + y.w, -1, 2 * q, 2 * q + 1⟩ : It)])] _ := hs_5
    have hS_2 : Sat w [] _ := hs_5d.sub ((.cons _ (.cons _ .slnil)))
    refine ⟨hS_2, ?_⟩
    refine RP.eff rfl rfl rfl (OpE.appendL 0 sl161 hs_5d rfl rfl rfl Try.underlying161 (hs_5d.rdL 1 rfl) (by simp; omega) (by simp; omega) fun v_2 w_4 hs_6 hch_2 => ?_)
    have hs_6d : Sat w [cL v_2 164 (encIt) (l ++ pkgAt 0 (b.take (2 * q)) ++ [(⟨x.w + y.w, -1, 2 * q, 2 * q + 1⟩ : It)])] _ := hs_6.drop 1
    have hS_3 : Sat w [] _ := hs_6d.sub ((.cons _ .slnil))
    refine ⟨hS_3, ?_⟩
    refine RP.ev rfl rfl rfl (fun w' hS' => Ev.assign rfl) hS_3 ?_
    refine RP.fin ?_
    refine CW.region ?_
    refine RT.ev rfl rfl (Ev.move rfl) <| RT.ev rfl rfl (Ev.addI (b := 2) rfl rfl (by omega)) <| RT.ev rfl rfl (Ev.assign rfl) ?_
    refine RT.nil ?_
    have hs_7 : Sat w [cL v_2 164 (encIt) (l ++ pkgAt 0 (b.take (2 * (q + 1))))] w_4 := by
      have hq : l ++ pkgAt 0 (b.take (2 * q)) ++ [(⟨x.w + y.w, -1, 2 * q, 2 * q + 1⟩ : It)] = l ++ pkgAt 0 (b.take (2 * (q + 1))) := by rw [pkgAt_snoc q 0 b x y hx hy]; simp
      rw [← hq]; exact hs_6d
    exact ⟨(q + 1, v_2), ⟨rfl, rfl, rfl, trivial⟩, ⟨hs_7, by omega⟩, (show (b.length - 2 * (q + 1)) < (b.length - 2 * q) from by omega)⟩
  · refine CW.exit0 ?_
    refine CW.seq ?_
    have hs_8 : Sat w [cL ov 164 (encIt) (l ++ pkgAt 0 b)] w_2 := by
      have hq : l ++ pkgAt 0 (b.take (2 * q)) = l ++ pkgAt 0 b := by rw [pkgAt_all q 0 b (by omega)]
      rw [← hq]; exact hs_3
    refine CW.region ?_
    refine RT.ev rfl rfl (Ev.move rfl) ?_
    have hA_1 : Sat w ([cL ov 164 (encIt) (l ++ pkgAt 0 b)] ++ ([] ++ [])) _ := (Sat.order [0] (by decide) hs_8.tail).cut 1
    refine RT.eff rfl rfl (OpE.call ent171 rfl ((srtIt w _ _ ov (l ++ pkgAt 0 b) (It.w) (fun x : It => x.w < 2 ^ 62) 174 #[] ent174 (fun _ w _ a b ha hb => ncmp_ok a b w ha hb) hA_1 (fun x hx => by show x.w < 2 ^ 62; rcases List.mem_append.1 hx with hx | hx; (have := hwl x hx; omega); (have := (pkgAt_mem 0 b W hwb x hx).1; omega)) (by rw [List.length_append, pkgAt_length]; omega)).mono fun r_2 w_5 h_2 => ?_))
    obtain ⟨rfl, hp_2⟩ := h_2
    have hs_9 : Sat w [cL ov 164 (encIt) (ssort (It.w) (l ++ pkgAt 0 b))] _ := (Sat.order [0] (by decide) hp_2.join).untail
    refine RT.nil ?_
    refine CW.seq ?_
    refine CW.region ?_
    refine RT.ev rfl rfl (Ev.move rfl) <| RT.ev rfl rfl (Ev.assign rfl) ?_
    refine RT.nil ?_
    refine CW.ret ?_
    show PostK _ _ _ _ _ _
    refine post1 rfl rfl ?_
    exact hs_9

end Go.Proofs.Ytfhbflhnelbkfaa
