/- The walks of the functions of F16f, printed by our own program (kwgen.py) out of our descriptions (base.py). -/
import Derived.Test.YtfhbflhnelbkfaaF16e
import Derived.Test.YtfhbflhnelbkfaaTab
namespace Go.Proofs.Ytfhbflhnelbkfaa
open Go.RowKit Go.Kw
set_option maxRecDepth 100000
set_option linter.unusedVariables false
set_option linter.unusedSimpArgs false
theorem tp_limit (v : Value) (z : List Int) (w : World) (hv : RdL w v (encI .i64) z) (c : Int) (hz : 4096 < z.length) :
    CallsV Try.prog 7 [v, (Value.int .i64 (c))] w fun r w' => r = .bool true ∧ Sat w [] w' := by
  have hs0 := Sat.start w
  refine callsV_of Try.func7 rfl rfl ?_
  refine CW.seq ?_
  refine CW.region ?_
  refine RT.ev rfl rfl (Ev.assign rfl) ?_
  refine RT.nil ?_
  refine CW.seq ?_
  refine CW.region ?_
  refine RT.ev rfl rfl (Ev.move rfl) ?_
  refine RT.eff rfl rfl (OpE.call ent24 rfl ((build_limit _ (z) _ (hv.ext hs0.ext) (hz)).mono fun r_1 w_1 h_1 => ?_))
  obtain ⟨rfl, hp_1⟩ := h_1
  have hs_1 : Sat w [] _ := hs0.adds hp_1
  refine RT.ev rfl rfl (Ev.move rfl) ?_
  refine RT.ev rfl rfl (Ev.extract rfl rfl) ?_
  refine RT.ev rfl rfl (Ev.extract rfl rfl) ?_
  refine RT.ev rfl rfl (Ev.assign rfl) ?_
  refine RT.ev rfl rfl (Ev.assign rfl) ?_
  refine RT.nil ?_
  refine CW.seq ?_
  refine CW.region ?_
  refine RT.ev rfl rfl (Ev.move rfl) ?_
  refine RT.ev rfl rfl (Ev.lenL Try.underlying22 rfl (hv.ext hs_1.ext)) ?_
  refine RT.ev rfl rfl (Ev.assign rfl) ?_
  refine RT.nil ?_
  refine CW.seq ?_
  refine CW.seq ?_
  refine CW.mid (fun L' w' => Weak [(0, v), (1, (Value.int .i64 (c))), (4, (Value.bool false)), (5, (Value.pointer none)), (6, (Value.int .i64 ((2 : Nat) : Int))), (7, (Value.int .i64 ((z.length : Nat) : Int))), (36, (Value.bool (decide ((((300 < z.length) ∨ (2 ≠ 0)) ∨ ((c : Int) < (0 : Int))) ∨ (((z.length : Nat) : Int) < (c : Int))))))] L' ∧ Sat w [] w') ?_ ?_
  · refine CW.region ?_
    refine RT.ev rfl rfl (Ev.move rfl) ?_
    refine RT.ev rfl rfl (Ev.gtrN (b := 300) rfl rfl) ?_
    refine RT.ev rfl rfl (Ev.move rfl) ?_
    by_cases hg_1 : 300 < z.length
    · refine RT.no rfl rfl rfl (decide_eq_true hg_1) rfl ?_
      refine RT.no rfl rfl rfl (decide_eq_true hg_1) rfl ?_
      refine RT.ev rfl rfl (Ev.pickY rfl (decide_eq_true hg_1) rfl) ?_
      refine RT.ev rfl rfl (Ev.move rfl) ?_
      refine RT.no rfl rfl rfl (rfl) rfl ?_
      refine RT.no rfl rfl rfl (rfl) rfl ?_
      refine RT.ev rfl rfl (Ev.pickY rfl (rfl) rfl) ?_
      refine RT.ev rfl rfl (Ev.move rfl) ?_
      refine RT.no rfl rfl rfl (rfl) rfl ?_
      refine RT.no rfl rfl rfl (rfl) rfl ?_
      refine RT.no rfl rfl rfl (rfl) rfl ?_
      refine RT.ev rfl rfl (Ev.pickY rfl (rfl) rfl) ?_
      refine RT.nil ?_
      exact ⟨⟨rfl, rfl, rfl, rfl, rfl, rfl, congrArg some (congrArg Value.bool (by simp [hg_1])), trivial⟩, hs_1⟩
    · refine RT.yes rfl rfl rfl (decide_eq_false hg_1) ?_
      refine RT.ev rfl rfl (Ev.move rfl) ?_
      refine RT.yes rfl rfl rfl (decide_eq_false hg_1) ?_
      refine RT.ev rfl rfl (Ev.neqN (a := 2) (b := 0) rfl rfl) ?_
      refine RT.ev rfl rfl (Ev.pickN rfl (decide_eq_false hg_1) rfl) ?_
      refine RT.ev rfl rfl (Ev.move rfl) ?_
      refine RT.no rfl rfl rfl (rfl) rfl ?_
      refine RT.no rfl rfl rfl (rfl) rfl ?_
      refine RT.ev rfl rfl (Ev.pickY rfl (rfl) rfl) ?_
      refine RT.ev rfl rfl (Ev.move rfl) ?_
      refine RT.no rfl rfl rfl (rfl) rfl ?_
      refine RT.no rfl rfl rfl (rfl) rfl ?_
      refine RT.no rfl rfl rfl (rfl) rfl ?_
      refine RT.ev rfl rfl (Ev.pickY rfl (rfl) rfl) ?_
      refine RT.nil ?_
      exact ⟨⟨rfl, rfl, rfl, rfl, rfl, rfl, congrArg some (congrArg Value.bool (by simp [hg_1])), trivial⟩, hs_1⟩
  · rintro L' w_2 ⟨hw_1, hs_2⟩
    refine CW.weaken _ hw_1 ?_
    refine CW.condT rfl (decide_eq_true (by omega)) ?_
    refine CW.seq ?_
    refine CW.region ?_
    refine RT.ev rfl rfl (Ev.assign rfl) ?_
    refine RT.nil ?_
    refine CW.ret ?_
    show PostK _ _ _ _ _ _
    refine post1 rfl rfl ?_
    have hs_3 : Sat w [] w_2 := hs_2.sub (.slnil)
    exact ⟨rfl, hs_3⟩

theorem tp_range (v : Value) (z : List Int) (w : World) (hv : RdL w v (encI .i64) z) (c : Int) (hz : z.length ≤ 4096) (hbad : ∃ x ∈ z, x < 0 ∨ 1024 ≤ x)  :
    CallsV Try.prog 7 [v, (Value.int .i64 (c))] w fun r w' => r = .bool true ∧ Sat w [] w' := by
  have hs0 := Sat.start w
  refine callsV_of Try.func7 rfl rfl ?_
  refine CW.seq ?_
  refine CW.region ?_
  refine RT.ev rfl rfl (Ev.assign rfl) ?_
  refine RT.nil ?_
  refine CW.seq ?_
  refine CW.region ?_
  refine RT.ev rfl rfl (Ev.move rfl) ?_
  refine RT.eff rfl rfl (OpE.call ent24 rfl ((build_range _ (z) _ (hv.ext hs0.ext) (hz) (hbad)).mono fun r_1 w_1 h_1 => ?_))
  obtain ⟨rfl, hp_1⟩ := h_1
  have hs_1 : Sat w [] _ := hs0.adds hp_1
  refine RT.ev rfl rfl (Ev.move rfl) ?_
  refine RT.ev rfl rfl (Ev.extract rfl rfl) ?_
  refine RT.ev rfl rfl (Ev.extract rfl rfl) ?_
  refine RT.ev rfl rfl (Ev.assign rfl) ?_
  refine RT.ev rfl rfl (Ev.assign rfl) ?_
  refine RT.nil ?_
  refine CW.seq ?_
  refine CW.region ?_
  refine RT.ev rfl rfl (Ev.move rfl) ?_
  refine RT.ev rfl rfl (Ev.lenL Try.underlying22 rfl (hv.ext hs_1.ext)) ?_
  refine RT.ev rfl rfl (Ev.assign rfl) ?_
  refine RT.nil ?_
  refine CW.seq ?_
  refine CW.seq ?_
  refine CW.mid (fun L' w' => Weak [(0, v), (1, (Value.int .i64 (c))), (4, (Value.bool false)), (5, (Value.pointer none)), (6, (Value.int .i64 ((8 : Nat) : Int))), (7, (Value.int .i64 ((z.length : Nat) : Int))), (36, (Value.bool (decide ((((300 < z.length) ∨ (8 ≠ 0)) ∨ ((c : Int) < (0 : Int))) ∨ (((z.length : Nat) : Int) < (c : Int))))))] L' ∧ Sat w [] w') ?_ ?_
  · refine CW.region ?_
    refine RT.ev rfl rfl (Ev.move rfl) ?_
    refine RT.ev rfl rfl (Ev.gtrN (b := 300) rfl rfl) ?_
    refine RT.ev rfl rfl (Ev.move rfl) ?_
    by_cases hg_1 : 300 < z.length
    · refine RT.no rfl rfl rfl (decide_eq_true hg_1) rfl ?_
      refine RT.no rfl rfl rfl (decide_eq_true hg_1) rfl ?_
      refine RT.ev rfl rfl (Ev.pickY rfl (decide_eq_true hg_1) rfl) ?_
      refine RT.ev rfl rfl (Ev.move rfl) ?_
      refine RT.no rfl rfl rfl (rfl) rfl ?_
      refine RT.no rfl rfl rfl (rfl) rfl ?_
      refine RT.ev rfl rfl (Ev.pickY rfl (rfl) rfl) ?_
      refine RT.ev rfl rfl (Ev.move rfl) ?_
      refine RT.no rfl rfl rfl (rfl) rfl ?_
      refine RT.no rfl rfl rfl (rfl) rfl ?_
      refine RT.no rfl rfl rfl (rfl) rfl ?_
      refine RT.ev rfl rfl (Ev.pickY rfl (rfl) rfl) ?_
      refine RT.nil ?_
      exact ⟨⟨rfl, rfl, rfl, rfl, rfl, rfl, congrArg some (congrArg Value.bool (by simp [hg_1])), trivial⟩, hs_1⟩
    · refine RT.yes rfl rfl rfl (decide_eq_false hg_1) ?_
      refine RT.ev rfl rfl (Ev.move rfl) ?_
      refine RT.yes rfl rfl rfl (decide_eq_false hg_1) ?_
      refine RT.ev rfl rfl (Ev.neqN (a := 8) (b := 0) rfl rfl) ?_
      refine RT.ev rfl rfl (Ev.pickN rfl (decide_eq_false hg_1) rfl) ?_
      refine RT.ev rfl rfl (Ev.move rfl) ?_
      refine RT.no rfl rfl rfl (rfl) rfl ?_
      refine RT.no rfl rfl rfl (rfl) rfl ?_
      refine RT.ev rfl rfl (Ev.pickY rfl (rfl) rfl) ?_
      refine RT.ev rfl rfl (Ev.move rfl) ?_
      refine RT.no rfl rfl rfl (rfl) rfl ?_
      refine RT.no rfl rfl rfl (rfl) rfl ?_
      refine RT.no rfl rfl rfl (rfl) rfl ?_
      refine RT.ev rfl rfl (Ev.pickY rfl (rfl) rfl) ?_
      refine RT.nil ?_
      exact ⟨⟨rfl, rfl, rfl, rfl, rfl, rfl, congrArg some (congrArg Value.bool (by simp [hg_1])), trivial⟩, hs_1⟩
  · rintro L' w_2 ⟨hw_1, hs_2⟩
    refine CW.weaken _ hw_1 ?_
    refine CW.condT rfl (decide_eq_true (by omega)) ?_
    refine CW.seq ?_
    refine CW.region ?_
    refine RT.ev rfl rfl (Ev.assign rfl) ?_
    refine RT.nil ?_
    refine CW.ret ?_
    show PostK _ _ _ _ _ _
    refine post1 rfl rfl ?_
    have hs_3 : Sat w [] w_2 := hs_2.sub (.slnil)
    exact ⟨rfl, hs_3⟩

theorem tp_skip (v : Value) (l : List Nat) (w : World) (hv : RdL w v (encN .i64) l) (hl : OkN l) (c : Int) (hno : 300 < l.length ∨ c < 0 ∨ ((l.length : Nat) : Int) < c) :
    CallsV Try.prog 7 [v, (Value.int .i64 (c))] w fun r w' => r = .bool true ∧ Sat w [] w' := by
  have hs0 := Sat.start w
  refine callsV_of Try.func7 rfl rfl ?_
  refine CW.seq ?_
  refine CW.region ?_
  refine RT.ev rfl rfl (Ev.assign rfl) ?_
  refine RT.nil ?_
  refine CW.seq ?_
  refine CW.region ?_
  refine RT.ev rfl rfl (Ev.move rfl) ?_
  refine RT.eff rfl rfl (OpE.call ent24 rfl ((build_ok _ (l) _ (hv.ext hs0.ext) (hl)).mono fun r_1 w_1 h_1 => ?_))
  obtain ⟨g_1, lv_1, bv_1, ps_1, rfl, hps_1, hp_1⟩ := h_1
  have hs_1 : Sat w [cObj g_1 79 [(Value.int .i64 (((l).length : Nat) : Int)), (Value.int .i64 (((kindN l) : Nat) : Int)), lv_1, bv_1, (Value.int .i64 ((0 : Nat) : Int)), (Value.slice none 0 0)], cL lv_1 3 (encN .i64) (lensK l), cL bv_1 124 (encPt) (ps_1), cParts (ps_1), cL (Value.slice none 0 0) 3 (encN .i64) ([])] _ := hs0.adds hp_1
  refine RT.ev rfl rfl (Ev.move rfl) ?_
  refine RT.ev rfl rfl (Ev.extract rfl rfl) ?_
  refine RT.ev rfl rfl (Ev.extract rfl rfl) ?_
  refine RT.ev rfl rfl (Ev.assign rfl) ?_
  refine RT.ev rfl rfl (Ev.assign rfl) ?_
  refine RT.nil ?_
  refine CW.seq ?_
  refine CW.region ?_
  refine RT.ev rfl rfl (Ev.move rfl) ?_
  refine RT.ev rfl rfl (Ev.lenL Try.underlying22 rfl (hv.ext hs_1.ext)) ?_
  refine RT.ev rfl rfl (Ev.assign rfl) ?_
  refine RT.nil ?_
  refine CW.seq ?_
  refine CW.seq ?_
  refine CW.mid (fun L' w' => Weak [(0, v), (1, (Value.int .i64 (c))), (4, (Value.bool false)), (5, (Value.pointer (some ⟨g_1, 0, none⟩))), (6, (Value.int .i64 ((0 : Nat) : Int))), (7, (Value.int .i64 ((l.length : Nat) : Int))), (36, (Value.bool (decide ((((300 < l.length) ∨ (0 ≠ 0)) ∨ ((c : Int) < (0 : Int))) ∨ (((l.length : Nat) : Int) < (c : Int))))))] L' ∧ Sat w [cObj g_1 79 [(Value.int .i64 (((l).length : Nat) : Int)), (Value.int .i64 (((kindN l) : Nat) : Int)), lv_1, bv_1, (Value.int .i64 ((0 : Nat) : Int)), (Value.slice none 0 0)], cL lv_1 3 (encN .i64) (lensK l), cL bv_1 124 (encPt) (ps_1), cParts (ps_1), cL (Value.slice none 0 0) 3 (encN .i64) ([])] w') ?_ ?_
  · refine CW.region ?_
    refine RT.ev rfl rfl (Ev.move rfl) ?_
    refine RT.ev rfl rfl (Ev.gtrN (b := 300) rfl rfl) ?_
    refine RT.ev rfl rfl (Ev.move rfl) ?_
    by_cases hg_1 : 300 < l.length
    · refine RT.no rfl rfl rfl (decide_eq_true hg_1) rfl ?_
      refine RT.no rfl rfl rfl (decide_eq_true hg_1) rfl ?_
      refine RT.ev rfl rfl (Ev.pickY rfl (decide_eq_true hg_1) rfl) ?_
      refine RT.ev rfl rfl (Ev.move rfl) ?_
      refine RT.no rfl rfl rfl (rfl) rfl ?_
      refine RT.no rfl rfl rfl (rfl) rfl ?_
      refine RT.ev rfl rfl (Ev.pickY rfl (rfl) rfl) ?_
      refine RT.ev rfl rfl (Ev.move rfl) ?_
      refine RT.no rfl rfl rfl (rfl) rfl ?_
      refine RT.no rfl rfl rfl (rfl) rfl ?_
      refine RT.no rfl rfl rfl (rfl) rfl ?_
      refine RT.ev rfl rfl (Ev.pickY rfl (rfl) rfl) ?_
      refine RT.nil ?_
      exact ⟨⟨rfl, rfl, rfl, rfl, rfl, rfl, congrArg some (congrArg Value.bool (by simp [hg_1])), trivial⟩, hs_1⟩
    · refine RT.yes rfl rfl rfl (decide_eq_false hg_1) ?_
      refine RT.ev rfl rfl (Ev.move rfl) ?_
      refine RT.yes rfl rfl rfl (decide_eq_false hg_1) ?_
      refine RT.ev rfl rfl (Ev.neqN (a := 0) (b := 0) rfl rfl) ?_
      refine RT.ev rfl rfl (Ev.pickN rfl (decide_eq_false hg_1) rfl) ?_
      refine RT.ev rfl rfl (Ev.move rfl) ?_
      refine RT.yes rfl rfl rfl (rfl) ?_
      refine RT.ev rfl rfl (Ev.move rfl) ?_
      refine RT.yes rfl rfl rfl (rfl) ?_
      refine RT.ev rfl rfl (Ev.lss rfl rfl) ?_
      refine RT.ev rfl rfl (Ev.pickN rfl (rfl) rfl) ?_
      refine RT.ev rfl rfl (Ev.move rfl) ?_
      by_cases hg_2 : (c : Int) < (0 : Int)
      · refine RT.no rfl rfl rfl (decide_eq_true hg_2) rfl ?_
        refine RT.no rfl rfl rfl (decide_eq_true hg_2) rfl ?_
        refine RT.no rfl rfl rfl (decide_eq_true hg_2) rfl ?_
        refine RT.ev rfl rfl (Ev.pickY rfl (decide_eq_true hg_2) rfl) ?_
        refine RT.nil ?_
        exact ⟨⟨rfl, rfl, rfl, rfl, rfl, rfl, congrArg some (congrArg Value.bool (by simp [hg_1, hg_2])), trivial⟩, hs_1⟩
      · refine RT.yes rfl rfl rfl (decide_eq_false hg_2) ?_
        refine RT.ev rfl rfl (Ev.move rfl) ?_
        refine RT.yes rfl rfl rfl (decide_eq_false hg_2) ?_
        refine RT.ev rfl rfl (Ev.move rfl) ?_
        refine RT.yes rfl rfl rfl (decide_eq_false hg_2) ?_
        refine RT.ev rfl rfl (Ev.gtr rfl rfl) ?_
        refine RT.ev rfl rfl (Ev.pickN rfl (decide_eq_false hg_2) rfl) ?_
        refine RT.nil ?_
        exact ⟨⟨rfl, rfl, rfl, rfl, rfl, rfl, congrArg some (congrArg Value.bool (by simp [hg_1, hg_2])), trivial⟩, hs_1⟩
  · rintro L' w_2 ⟨hw_1, hs_2⟩
    refine CW.weaken _ hw_1 ?_
    refine CW.condT rfl (decide_eq_true (by omega)) ?_
    refine CW.seq ?_
    refine CW.region ?_
    refine RT.ev rfl rfl (Ev.assign rfl) ?_
    refine RT.nil ?_
    refine CW.ret ?_
    show PostK _ _ _ _ _ _
    refine post1 rfl rfl ?_
    have hs_3 : Sat w [] w_2 := hs_2.sub ((.cons _ (.cons _ (.cons _ (.cons _ (.cons _ .slnil))))))
    exact ⟨rfl, hs_3⟩

set_option maxHeartbeats 1000000 in
theorem tp_ok (v : Value) (l : List Nat) (w : World) (hv : RdL w v (encN .i64) l) (hl : OkN l) (cut : Nat) (hz : l.length ≤ 300) (hc : cut ≤ l.length) :
    CallsV Try.prog 7 [v, (Value.int .i64 ((cut : Nat) : Int))] w fun r w' => r = .bool true ∧ Sat w [] w' := by
  have hs0 := Sat.start w
  refine callsV_of Try.func7 rfl rfl ?_
  refine CW.seq ?_
  refine CW.region ?_
  refine RT.ev rfl rfl (Ev.assign rfl) ?_
  refine RT.nil ?_
  refine CW.seq ?_
  refine CW.region ?_
  refine RT.ev rfl rfl (Ev.move rfl) ?_
  refine RT.eff rfl rfl (OpE.call ent24 rfl ((build_ok _ (l) _ (hv.ext hs0.ext) (hl)).mono fun r_1 w_1 h_1 => ?_))
  obtain ⟨g_1, lv_1, bv_1, ps_1, rfl, hps_1, hp_1⟩ := h_1
  have hs_1 : Sat w [cObj g_1 79 [(Value.int .i64 (((l).length : Nat) : Int)), (Value.int .i64 (((kindN l) : Nat) : Int)), lv_1, bv_1, (Value.int .i64 ((0 : Nat) : Int)), (Value.slice none 0 0)], cL lv_1 3 (encN .i64) (lensK l), cL bv_1 124 (encPt) (ps_1), cParts (ps_1), cL (Value.slice none 0 0) 3 (encN .i64) ([])] _ := hs0.adds hp_1
  refine RT.ev rfl rfl (Ev.move rfl) ?_
  refine RT.ev rfl rfl (Ev.extract rfl rfl) ?_
  refine RT.ev rfl rfl (Ev.extract rfl rfl) ?_
  refine RT.ev rfl rfl (Ev.assign rfl) ?_
  refine RT.ev rfl rfl (Ev.assign rfl) ?_
  refine RT.nil ?_
  refine CW.seq ?_
  refine CW.region ?_
  refine RT.ev rfl rfl (Ev.move rfl) ?_
  refine RT.ev rfl rfl (Ev.lenL Try.underlying22 rfl (hv.ext hs_1.ext)) ?_
  refine RT.ev rfl rfl (Ev.assign rfl) ?_
  refine RT.nil ?_
  refine CW.seq ?_
  refine CW.seq ?_
  refine CW.mid (fun L' w' => Weak [(0, v), (1, (Value.int .i64 ((cut : Nat) : Int))), (4, (Value.bool false)), (5, (Value.pointer (some ⟨g_1, 0, none⟩))), (6, (Value.int .i64 ((0 : Nat) : Int))), (7, (Value.int .i64 ((l.length : Nat) : Int))), (36, (Value.bool (decide ((((300 < l.length) ∨ (0 ≠ 0)) ∨ (cut < 0)) ∨ (l.length < cut)))))] L' ∧ Sat w [cObj g_1 79 [(Value.int .i64 (((l).length : Nat) : Int)), (Value.int .i64 (((kindN l) : Nat) : Int)), lv_1, bv_1, (Value.int .i64 ((0 : Nat) : Int)), (Value.slice none 0 0)], cL lv_1 3 (encN .i64) (lensK l), cL bv_1 124 (encPt) (ps_1), cParts (ps_1), cL (Value.slice none 0 0) 3 (encN .i64) ([])] w') ?_ ?_
  · refine CW.region ?_
    refine RT.ev rfl rfl (Ev.move rfl) ?_
    refine RT.ev rfl rfl (Ev.gtrN (b := 300) rfl rfl) ?_
    refine RT.ev rfl rfl (Ev.move rfl) ?_
    by_cases hg_1 : 300 < l.length
    · refine RT.no rfl rfl rfl (decide_eq_true hg_1) rfl ?_
      refine RT.no rfl rfl rfl (decide_eq_true hg_1) rfl ?_
      refine RT.ev rfl rfl (Ev.pickY rfl (decide_eq_true hg_1) rfl) ?_
      refine RT.ev rfl rfl (Ev.move rfl) ?_
      refine RT.no rfl rfl rfl (rfl) rfl ?_
      refine RT.no rfl rfl rfl (rfl) rfl ?_
      refine RT.ev rfl rfl (Ev.pickY rfl (rfl) rfl) ?_
      refine RT.ev rfl rfl (Ev.move rfl) ?_
      refine RT.no rfl rfl rfl (rfl) rfl ?_
      refine RT.no rfl rfl rfl (rfl) rfl ?_
      refine RT.no rfl rfl rfl (rfl) rfl ?_
      refine RT.ev rfl rfl (Ev.pickY rfl (rfl) rfl) ?_
      refine RT.nil ?_
      exact ⟨⟨rfl, rfl, rfl, rfl, rfl, rfl, congrArg some (congrArg Value.bool (by simp [hg_1])), trivial⟩, hs_1⟩
    · refine RT.yes rfl rfl rfl (decide_eq_false hg_1) ?_
      refine RT.ev rfl rfl (Ev.move rfl) ?_
      refine RT.yes rfl rfl rfl (decide_eq_false hg_1) ?_
      refine RT.ev rfl rfl (Ev.neqN (a := 0) (b := 0) rfl rfl) ?_
      refine RT.ev rfl rfl (Ev.pickN rfl (decide_eq_false hg_1) rfl) ?_
      refine RT.ev rfl rfl (Ev.move rfl) ?_
      refine RT.yes rfl rfl rfl (rfl) ?_
      refine RT.ev rfl rfl (Ev.move rfl) ?_
      refine RT.yes rfl rfl rfl (rfl) ?_
      refine RT.ev rfl rfl (Ev.lssN (b := 0) rfl rfl) ?_
      refine RT.ev rfl rfl (Ev.pickN rfl (rfl) rfl) ?_
      refine RT.ev rfl rfl (Ev.move rfl) ?_
      by_cases hg_2 : cut < 0
      · refine RT.no rfl rfl rfl (decide_eq_true hg_2) rfl ?_
        refine RT.no rfl rfl rfl (decide_eq_true hg_2) rfl ?_
        refine RT.no rfl rfl rfl (decide_eq_true hg_2) rfl ?_
        refine RT.ev rfl rfl (Ev.pickY rfl (decide_eq_true hg_2) rfl) ?_
        refine RT.nil ?_
        exact ⟨⟨rfl, rfl, rfl, rfl, rfl, rfl, congrArg some (congrArg Value.bool (by simp [hg_1, hg_2])), trivial⟩, hs_1⟩
      · refine RT.yes rfl rfl rfl (decide_eq_false hg_2) ?_
        refine RT.ev rfl rfl (Ev.move rfl) ?_
        refine RT.yes rfl rfl rfl (decide_eq_false hg_2) ?_
        refine RT.ev rfl rfl (Ev.move rfl) ?_
        refine RT.yes rfl rfl rfl (decide_eq_false hg_2) ?_
        refine RT.ev rfl rfl (Ev.gtrN rfl rfl) ?_
        refine RT.ev rfl rfl (Ev.pickN rfl (decide_eq_false hg_2) rfl) ?_
        refine RT.nil ?_
        exact ⟨⟨rfl, rfl, rfl, rfl, rfl, rfl, congrArg some (congrArg Value.bool (by simp [hg_1, hg_2])), trivial⟩, hs_1⟩
  · rintro L' w_2 ⟨hw_1, hs_2⟩
    refine CW.weaken _ hw_1 ?_
    refine CW.condF rfl (decide_eq_false (by omega)) ?_
    refine CW.skip ?_
    refine CW.seq ?_
    refine CW.seq ?_
    refine CW.region ?_
    refine RT.ev rfl rfl (Ev.move rfl) ?_
    refine RT.ev rfl rfl (Ev.eqlPt Try.underlying23 rfl rfl) ?_
    refine RT.nil ?_
    refine CW.condF rfl (rfl) ?_
    refine CW.skip ?_
    refine CW.seq ?_
    refine CW.region ?_
    refine RT.ev rfl rfl (Ev.move rfl) ?_
    refine RT.ev rfl rfl (Ev.move rfl) ?_
    have hA_1 : Sat w ([cObj g_1 79 [(Value.int .i64 (((l).length : Nat) : Int)), (Value.int .i64 (((kindN l) : Nat) : Int)), lv_1, bv_1, (Value.int .i64 ((0 : Nat) : Int)), (Value.slice none 0 0)], cL lv_1 3 (encN .i64) (lensK l), cL bv_1 124 (encPt) (ps_1), cParts (ps_1), cL (Value.slice none 0 0) 3 (encN .i64) ([])] ++ ([] ++ [])) _ := (Sat.order [0, 1, 2, 3, 4] (by decide) hs_2.tail).cut 5
    refine RT.eff rfl rfl (OpE.call ent25 rfl ((sslice_ok _ _ _ _ _ _ _ (l) ([]) (ps_1) (0) hA_1 (hl) (hps_1) (CacheOk.zero l) (0) (cut) (Nat.zero_le _) (hc)).mono fun r_2 w_3 h_2 => ?_))
    obtain ⟨slv_1, last_1, kv_1, blk_1, rfl, hca_1, hp_2⟩ := h_2
    have hs_3 : Sat w [cObj g_1 79 [(Value.int .i64 ((l.length : Nat) : Int)), (Value.int .i64 (((kindN l) : Nat) : Int)), lv_1, bv_1, (Value.int .i64 ((last_1 : Nat) : Int)), kv_1], cL lv_1 3 (encN .i64) (lensK l), cL bv_1 124 (encPt) (ps_1), cParts (ps_1), cL kv_1 3 (encN .i64) (blk_1), cL slv_1 3 (encN .i64) (((l).take cut).drop 0)] _ := (Sat.order [0, 1, 2, 3, 4, 5] (by decide) hp_2.join).untail
    refine RT.ev rfl rfl (Ev.move rfl) ?_
    refine RT.ev rfl rfl (Ev.extract rfl rfl) ?_
    refine RT.ev rfl rfl (Ev.extract rfl rfl) ?_
    refine RT.ev rfl rfl (Ev.assign rfl) ?_
    refine RT.ev rfl rfl (Ev.assign rfl) ?_
    refine RT.nil ?_
    refine CW.seq ?_
    refine CW.region ?_
    refine RT.ev rfl rfl (Ev.move rfl) ?_
    refine RT.ev rfl rfl (Ev.move rfl) ?_
    refine RT.ev rfl rfl (Ev.move rfl) ?_
    have hA_2 : Sat w ([cObj g_1 79 [(Value.int .i64 ((l.length : Nat) : Int)), (Value.int .i64 (((kindN l) : Nat) : Int)), lv_1, bv_1, (Value.int .i64 ((last_1 : Nat) : Int)), kv_1], cL lv_1 3 (encN .i64) (lensK l), cL bv_1 124 (encPt) (ps_1), cParts (ps_1), cL kv_1 3 (encN .i64) (blk_1)] ++ ([cL slv_1 3 (encN .i64) (((l).take cut).drop 0)] ++ [])) _ := (Sat.order [0, 1, 2, 3, 4, 5] (by decide) hs_3.tail).cut 5
    refine RT.eff rfl rfl (OpE.call ent25 rfl ((sslice_ok _ _ _ _ _ _ _ (l) (blk_1) (ps_1) (last_1) hA_2 (hl) (hps_1) (hca_1) (cut) (l.length) (hc) (Nat.le_refl _)).mono fun r_3 w_4 h_3 => ?_))
    obtain ⟨slv_2, last_2, kv_2, blk_2, rfl, hca_2, hp_3⟩ := h_3
    have hs_4 : Sat w [cObj g_1 79 [(Value.int .i64 ((l.length : Nat) : Int)), (Value.int .i64 (((kindN l) : Nat) : Int)), lv_1, bv_1, (Value.int .i64 ((last_2 : Nat) : Int)), kv_2], cL lv_1 3 (encN .i64) (lensK l), cL bv_1 124 (encPt) (ps_1), cParts (ps_1), cL kv_2 3 (encN .i64) (blk_2), cL slv_1 3 (encN .i64) (((l).take cut).drop 0), cL slv_2 3 (encN .i64) (((l).take l.length).drop cut)] _ := (Sat.order [0, 1, 2, 3, 4, 6, 5] (by decide) hp_3.join).untail
    refine RT.ev rfl rfl (Ev.move rfl) ?_
    refine RT.ev rfl rfl (Ev.extract rfl rfl) ?_
    refine RT.ev rfl rfl (Ev.extract rfl rfl) ?_
    refine RT.ev rfl rfl (Ev.assign rfl) ?_
    refine RT.ev rfl rfl (Ev.assign rfl) ?_
    refine RT.nil ?_
    refine CW.seq ?_
    refine CW.seq ?_
    refine CW.region ?_
    refine RT.ev rfl rfl (Ev.move rfl) ?_
    refine RT.ev rfl rfl (Ev.notB rfl) ?_
    refine RT.ev rfl rfl (Ev.move rfl) ?_
    refine RT.yes rfl rfl rfl (rfl) ?_
    refine RT.ev rfl rfl (Ev.move rfl) ?_
    refine RT.yes rfl rfl rfl (rfl) ?_
    refine RT.ev rfl rfl (Ev.notB rfl) ?_
    refine RT.ev rfl rfl (Ev.pickN rfl (rfl) rfl) ?_
    refine RT.ev rfl rfl (Ev.move rfl) ?_
    refine RT.yes rfl rfl rfl (rfl) ?_
    refine RT.ev rfl rfl (Ev.move rfl) ?_
    refine RT.yes rfl rfl rfl (rfl) ?_
    refine RT.ev rfl rfl (Ev.lenL Try.underlying22 rfl (hs_4.rdL 5 rfl)) ?_
    refine RT.yes rfl rfl rfl (rfl) ?_
    refine RT.ev rfl rfl (Ev.move rfl) ?_
    refine RT.yes rfl rfl rfl (rfl) ?_
    refine RT.ev rfl rfl (Ev.neqN rfl rfl) ?_
    refine RT.ev rfl rfl (Ev.pickN rfl (rfl) rfl) ?_
    refine RT.ev rfl rfl (Ev.move rfl) ?_
    refine RT.yes rfl rfl rfl (decide_eq_false (by simp <;> omega)) ?_
    refine RT.ev rfl rfl (Ev.move rfl) ?_
    refine RT.yes rfl rfl rfl (decide_eq_false (by simp <;> omega)) ?_
    refine RT.ev rfl rfl (Ev.lenL Try.underlying22 rfl (hs_4.rdL 6 rfl)) ?_
    refine RT.yes rfl rfl rfl (decide_eq_false (by simp <;> omega)) ?_
    refine RT.ev rfl rfl (Ev.move rfl) ?_
    refine RT.yes rfl rfl rfl (decide_eq_false (by simp <;> omega)) ?_
    refine RT.ev rfl rfl (Ev.move rfl) ?_
    refine RT.yes rfl rfl rfl (decide_eq_false (by simp <;> omega)) ?_
    refine RT.ev rfl rfl (Ev.subI rfl rfl (by omega) (by omega)) ?_
    refine RT.yes rfl rfl rfl (decide_eq_false (by simp <;> omega)) ?_
    refine RT.ev rfl rfl (Ev.neqN rfl rfl) ?_
    refine RT.ev rfl rfl (Ev.pickN rfl (decide_eq_false (by simp <;> omega)) rfl) ?_
    refine RT.nil ?_
    refine CW.condF rfl (decide_eq_false (by simp <;> omega)) ?_
    refine CW.skip ?_
    refine CW.seq ?_
    refine CW.seq ?_
    refine CW.weaken [(0, _), (1, _), (4, _), (5, _), (6, _), (7, _), (8, _), (9, _), (10, _), (11, _), (36, _), (38, _), (71, _)] ⟨rfl, rfl, rfl, rfl, rfl, rfl, rfl, rfl, rfl, rfl, rfl, rfl, rfl, trivial⟩ ?_
    refine CW.region ?_
    refine RT.ev rfl rfl (Ev.assign rfl) ?_
    refine RT.nil ?_
    refine CW.block ?_
    refine CW.loop (α := Nat × Nat × Value × List Nat) (fun (i, last, kv, blk) => [(1, (Value.int .i64 ((cut : Nat) : Int))), (5, (Value.pointer (some ⟨g_1, 0, none⟩))), (7, (Value.int .i64 ((l.length : Nat) : Int))), (8, slv_1), (10, slv_2), (12, (Value.int .i64 ((i : Nat) : Int)))]) (fun (i, last, kv, blk) w' => Sat w [cObj g_1 79 [(Value.int .i64 ((l.length : Nat) : Int)), (Value.int .i64 (((kindN l) : Nat) : Int)), lv_1, bv_1, (Value.int .i64 ((last : Nat) : Int)), kv], cL lv_1 3 (encN .i64) (lensK l), cL bv_1 124 (encPt) (ps_1), cParts (ps_1), cL kv 3 (encN .i64) (blk), cL slv_1 3 (encN .i64) (((l).take cut).drop 0), cL slv_2 3 (encN .i64) (((l).take l.length).drop cut)] w' ∧ (i ≤ l.length) ∧ (CacheOk l last blk)) (fun (i, last, kv, blk) => l.length - i) (0, last_2, kv_2, blk_2) ⟨rfl, rfl, rfl, rfl, rfl, rfl, trivial⟩ ⟨hs_4, Nat.zero_le _, hca_2⟩ ?_
    rintro ⟨i, last, kv, blk⟩ w_5 ⟨hs_5, hi, hca⟩
    show CW _ _ _ _ [(1, (Value.int .i64 ((cut : Nat) : Int))), (5, (Value.pointer (some ⟨g_1, 0, none⟩))), (7, (Value.int .i64 ((l.length : Nat) : Int))), (8, slv_1), (10, slv_2), (12, (Value.int .i64 ((i : Nat) : Int)))] _
    refine CW.seq ?_
    refine CW.seq ?_
    refine CW.region ?_
    refine RT.ev rfl rfl (Ev.move rfl) ?_
    refine RT.ev rfl rfl (Ev.move rfl) ?_
    refine RT.ev rfl rfl (Ev.lssN rfl rfl) ?_
    refine RT.nil ?_
    refine CW.condD rfl (fun hc_1 => ?_) (fun hc_1 => ?_)
    · refine CW.skip ?_
      refine CW.seq ?_
      refine CW.block ?_
      refine CW.seq ?_
      rcases Nat.lt_or_ge i cut with hw | hw
      · refine CW.region ?_
        refine RT.ev rfl rfl (Ev.move rfl) ?_
        refine RT.ev rfl rfl (Ev.move rfl) ?_
        have hA_3 : Sat w ([cObj g_1 79 [(Value.int .i64 ((l.length : Nat) : Int)), (Value.int .i64 (((kindN l) : Nat) : Int)), lv_1, bv_1, (Value.int .i64 ((last : Nat) : Int)), kv], cL lv_1 3 (encN .i64) (lensK l), cL bv_1 124 (encPt) (ps_1), cParts (ps_1), cL kv 3 (encN .i64) (blk)] ++ ([cL slv_1 3 (encN .i64) (((l).take cut).drop 0), cL slv_2 3 (encN .i64) (((l).take l.length).drop cut)] ++ [])) _ := (Sat.order [0, 1, 2, 3, 4, 5, 6] (by decide) hs_5.tail).cut 5
        refine RT.eff rfl rfl (OpE.call ent23 rfl ((sat_ok _ _ _ _ _ _ _ (l) (blk) (ps_1) (last) hA_3 (hl) (hps_1) (hca) (i) (by omega)).mono fun r_4 w_6 h_4 => ?_))
        obtain ⟨ax_1, hax_1, rfl, last_3, kv_3, blk_3, hca_3, hp_4⟩ := h_4
        have hs_6 : Sat w [cObj g_1 79 [(Value.int .i64 ((l.length : Nat) : Int)), (Value.int .i64 (((kindN l) : Nat) : Int)), lv_1, bv_1, (Value.int .i64 ((last_3 : Nat) : Int)), kv_3], cL lv_1 3 (encN .i64) (lensK l), cL bv_1 124 (encPt) (ps_1), cParts (ps_1), cL kv_3 3 (encN .i64) (blk_3), cL slv_1 3 (encN .i64) (((l).take cut).drop 0), cL slv_2 3 (encN .i64) (((l).take l.length).drop cut)] _ := (Sat.order [0, 1, 2, 3, 4, 5, 6] (by decide) hp_4.join).untail
        refine RT.ev rfl rfl (Ev.move rfl) ?_
        refine RT.ev rfl rfl (Ev.extract rfl rfl) ?_
        refine RT.ev rfl rfl (Ev.extract rfl rfl) ?_
        refine RT.ev rfl rfl (Ev.assign rfl) ?_
        refine RT.ev rfl rfl (Ev.assign rfl) ?_
        refine RT.nil ?_
        refine CW.seq ?_
        have hf : (((l).take cut).drop 0)[i]? = some ax_1 := by rw [List.drop_zero, List.getElem?_take, if_pos hw]; exact hax_1
        have hlf := lt_of_get hf
        refine CW.region ?_
        refine RT.ev rfl rfl (Ev.move rfl) ?_
        refine RT.ev rfl rfl (Ev.notB rfl) ?_
        refine RT.ev rfl rfl (Ev.move rfl) ?_
        refine RT.yes rfl rfl rfl (rfl) ?_
        refine RT.ev rfl rfl (Ev.move rfl) ?_
        refine RT.yes rfl rfl rfl (rfl) ?_
        refine RT.ev rfl rfl (Ev.move rfl) ?_
        refine RT.yes rfl rfl rfl (rfl) ?_
        refine RT.ev rfl rfl (Ev.lssN rfl rfl) ?_
        refine RT.yes rfl rfl rfl (rfl) ?_
        refine RT.ev rfl rfl (Ev.move rfl) ?_
        refine RT.yes rfl rfl rfl (decide_eq_true hw) ?_
        refine RT.ev rfl rfl (Ev.move rfl) ?_
        refine RT.yes rfl rfl rfl (decide_eq_true hw) ?_
        refine RT.ev rfl rfl (Ev.move rfl) ?_
        refine RT.yes rfl rfl rfl (decide_eq_true hw) ?_
        refine RT.ev rfl rfl (Ev.idxL (E := encN .i64) sl22 rfl rfl (hs_6.rdL 5 rfl) (by omega)) ?_
        refine RT.yes rfl rfl rfl (decide_eq_true hw) ?_
        refine RT.ev rfl rfl (Ev.ldL (E := encN .i64) scal3 rfl (hs_6.rdL 5 rfl) hf (by decide) rfl) ?_
        refine RT.yes rfl rfl rfl (decide_eq_true hw) ?_
        refine RT.ev rfl rfl (Ev.move rfl) ?_
        refine RT.yes rfl rfl rfl (decide_eq_true hw) ?_
        refine RT.ev rfl rfl (Ev.neqN rfl rfl) ?_
        refine RT.yes rfl rfl rfl (rfl) ?_
        refine RT.ev rfl rfl (Ev.pickY rfl (decide_eq_true hw) rfl) ?_
        refine RT.ev rfl rfl (Ev.pickN rfl (rfl) rfl) ?_
        refine RT.ev rfl rfl (Ev.move rfl) ?_
        refine RT.yes rfl rfl rfl (decide_eq_false (fun h => h rfl)) ?_
        refine RT.ev rfl rfl (Ev.move rfl) ?_
        refine RT.yes rfl rfl rfl (decide_eq_false (fun h => h rfl)) ?_
        refine RT.ev rfl rfl (Ev.move rfl) ?_
        refine RT.yes rfl rfl rfl (decide_eq_false (fun h => h rfl)) ?_
        refine RT.ev rfl rfl (Ev.geqN rfl rfl) ?_
        refine RT.yes rfl rfl rfl (decide_eq_false (fun h => h rfl)) ?_
        refine RT.ev rfl rfl (Ev.move rfl) ?_
        refine RT.no rfl rfl rfl (decide_eq_false (by omega)) rfl ?_
        refine RT.no rfl rfl rfl (decide_eq_false (by omega)) rfl ?_
        refine RT.no rfl rfl rfl (decide_eq_false (by omega)) rfl ?_
        refine RT.no rfl rfl rfl (decide_eq_false (by omega)) rfl ?_
        refine RT.no rfl rfl rfl (decide_eq_false (by omega)) rfl ?_
        refine RT.no rfl rfl rfl (decide_eq_false (by omega)) rfl ?_
        refine RT.no rfl rfl rfl (decide_eq_false (by omega)) rfl ?_
        refine RT.no rfl rfl rfl (decide_eq_false (by omega)) rfl ?_
        refine RT.yes rfl rfl rfl (decide_eq_false (fun h => h rfl)) ?_
        refine RT.ev rfl rfl (Ev.pickN rfl (decide_eq_false (by omega)) rfl) ?_
        refine RT.ev rfl rfl (Ev.pickN rfl (decide_eq_false (fun h => h rfl)) rfl) ?_
        refine RT.nil ?_
        refine CW.condF rfl (rfl) ?_
        refine CW.skip ?_
        refine CW.weaken [(1, _), (5, _), (7, _), (8, _), (10, _), (12, _), (13, _), (14, _), (74, _), (112, _)] ⟨rfl, rfl, rfl, rfl, rfl, rfl, rfl, rfl, rfl, rfl, trivial⟩ ?_
        refine CW.region ?_
        refine RT.ev rfl rfl (Ev.move rfl) ?_
        refine RT.ev rfl rfl (Ev.addI (b := 1) rfl rfl (by omega)) ?_
        refine RT.ev rfl rfl (Ev.assign rfl) ?_
        refine RT.nil ?_
        exact ⟨(i + 1, last_3, kv_3, blk_3), ⟨rfl, rfl, rfl, rfl, rfl, rfl, trivial⟩, ⟨hs_6, by omega, hca_3⟩, (show (l.length - (i + 1)) < (l.length - i) from by omega)⟩
      · refine CW.region ?_
        refine RT.ev rfl rfl (Ev.move rfl) ?_
        refine RT.ev rfl rfl (Ev.move rfl) ?_
        have hA_4 : Sat w ([cObj g_1 79 [(Value.int .i64 ((l.length : Nat) : Int)), (Value.int .i64 (((kindN l) : Nat) : Int)), lv_1, bv_1, (Value.int .i64 ((last : Nat) : Int)), kv], cL lv_1 3 (encN .i64) (lensK l), cL bv_1 124 (encPt) (ps_1), cParts (ps_1), cL kv 3 (encN .i64) (blk)] ++ ([cL slv_1 3 (encN .i64) (((l).take cut).drop 0), cL slv_2 3 (encN .i64) (((l).take l.length).drop cut)] ++ [])) _ := (Sat.order [0, 1, 2, 3, 4, 5, 6] (by decide) hs_5.tail).cut 5
        refine RT.eff rfl rfl (OpE.call ent23 rfl ((sat_ok _ _ _ _ _ _ _ (l) (blk) (ps_1) (last) hA_4 (hl) (hps_1) (hca) (i) (by omega)).mono fun r_5 w_7 h_5 => ?_))
        obtain ⟨ax_2, hax_2, rfl, last_4, kv_4, blk_4, hca_4, hp_5⟩ := h_5
        have hs_7 : Sat w [cObj g_1 79 [(Value.int .i64 ((l.length : Nat) : Int)), (Value.int .i64 (((kindN l) : Nat) : Int)), lv_1, bv_1, (Value.int .i64 ((last_4 : Nat) : Int)), kv_4], cL lv_1 3 (encN .i64) (lensK l), cL bv_1 124 (encPt) (ps_1), cParts (ps_1), cL kv_4 3 (encN .i64) (blk_4), cL slv_1 3 (encN .i64) (((l).take cut).drop 0), cL slv_2 3 (encN .i64) (((l).take l.length).drop cut)] _ := (Sat.order [0, 1, 2, 3, 4, 5, 6] (by decide) hp_5.join).untail
        refine RT.ev rfl rfl (Ev.move rfl) ?_
        refine RT.ev rfl rfl (Ev.extract rfl rfl) ?_
        refine RT.ev rfl rfl (Ev.extract rfl rfl) ?_
        refine RT.ev rfl rfl (Ev.assign rfl) ?_
        refine RT.ev rfl rfl (Ev.assign rfl) ?_
        refine RT.nil ?_
        refine CW.seq ?_
        have hf : (((l).take l.length).drop cut)[(i - cut)]? = some ax_2 := by rw [List.getElem?_drop, List.take_length, show cut + (i - cut) = i by omega]; exact hax_2
        have hlf := lt_of_get hf
        refine CW.region ?_
        refine RT.ev rfl rfl (Ev.move rfl) ?_
        refine RT.ev rfl rfl (Ev.notB rfl) ?_
        refine RT.ev rfl rfl (Ev.move rfl) ?_
        refine RT.yes rfl rfl rfl (rfl) ?_
        refine RT.ev rfl rfl (Ev.move rfl) ?_
        refine RT.yes rfl rfl rfl (rfl) ?_
        refine RT.ev rfl rfl (Ev.move rfl) ?_
        refine RT.yes rfl rfl rfl (rfl) ?_
        refine RT.ev rfl rfl (Ev.lssN rfl rfl) ?_
        refine RT.yes rfl rfl rfl (rfl) ?_
        refine RT.ev rfl rfl (Ev.move rfl) ?_
        refine RT.no rfl rfl rfl (decide_eq_false (by omega)) rfl ?_
        refine RT.no rfl rfl rfl (decide_eq_false (by omega)) rfl ?_
        refine RT.no rfl rfl rfl (decide_eq_false (by omega)) rfl ?_
        refine RT.no rfl rfl rfl (decide_eq_false (by omega)) rfl ?_
        refine RT.no rfl rfl rfl (decide_eq_false (by omega)) rfl ?_
        refine RT.no rfl rfl rfl (decide_eq_false (by omega)) rfl ?_
        refine RT.yes rfl rfl rfl (rfl) ?_
        refine RT.ev rfl rfl (Ev.pickN rfl (decide_eq_false (by omega)) rfl) ?_
        refine RT.ev rfl rfl (Ev.pickN rfl (rfl) rfl) ?_
        refine RT.ev rfl rfl (Ev.move rfl) ?_
        refine RT.yes rfl rfl rfl (rfl) ?_
        refine RT.ev rfl rfl (Ev.move rfl) ?_
        refine RT.yes rfl rfl rfl (rfl) ?_
        refine RT.ev rfl rfl (Ev.move rfl) ?_
        refine RT.yes rfl rfl rfl (rfl) ?_
        refine RT.ev rfl rfl (Ev.geqN rfl rfl) ?_
        refine RT.yes rfl rfl rfl (rfl) ?_
        refine RT.ev rfl rfl (Ev.move rfl) ?_
        refine RT.yes rfl rfl rfl (decide_eq_true hw) ?_
        refine RT.ev rfl rfl (Ev.move rfl) ?_
        refine RT.yes rfl rfl rfl (decide_eq_true hw) ?_
        refine RT.ev rfl rfl (Ev.move rfl) ?_
        refine RT.yes rfl rfl rfl (decide_eq_true hw) ?_
        refine RT.ev rfl rfl (Ev.move rfl) ?_
        refine RT.yes rfl rfl rfl (decide_eq_true hw) ?_
        refine RT.ev rfl rfl (Ev.subI rfl rfl (by omega) (by omega)) ?_
        refine RT.yes rfl rfl rfl (decide_eq_true hw) ?_
        refine RT.ev rfl rfl (Ev.idxL (E := encN .i64) sl22 rfl rfl (hs_7.rdL 6 rfl) (by omega)) ?_
        refine RT.yes rfl rfl rfl (decide_eq_true hw) ?_
        refine RT.ev rfl rfl (Ev.ldL (E := encN .i64) scal3 rfl (hs_7.rdL 6 rfl) hf (by decide) rfl) ?_
        refine RT.yes rfl rfl rfl (decide_eq_true hw) ?_
        refine RT.ev rfl rfl (Ev.move rfl) ?_
        refine RT.yes rfl rfl rfl (decide_eq_true hw) ?_
        refine RT.ev rfl rfl (Ev.neqN rfl rfl) ?_
        refine RT.yes rfl rfl rfl (rfl) ?_
        refine RT.ev rfl rfl (Ev.pickY rfl (decide_eq_true hw) rfl) ?_
        refine RT.ev rfl rfl (Ev.pickN rfl (rfl) rfl) ?_
        refine RT.nil ?_
        refine CW.condF rfl (decide_eq_false (fun h => h rfl)) ?_
        refine CW.skip ?_
        refine CW.weaken [(1, _), (5, _), (7, _), (8, _), (10, _), (12, _), (13, _), (14, _), (74, _), (112, _)] ⟨rfl, rfl, rfl, rfl, rfl, rfl, rfl, rfl, rfl, rfl, trivial⟩ ?_
        refine CW.region ?_
        refine RT.ev rfl rfl (Ev.move rfl) ?_
        refine RT.ev rfl rfl (Ev.addI (b := 1) rfl rfl (by omega)) ?_
        refine RT.ev rfl rfl (Ev.assign rfl) ?_
        refine RT.nil ?_
        exact ⟨(i + 1, last_4, kv_4, blk_4), ⟨rfl, rfl, rfl, rfl, rfl, rfl, trivial⟩, ⟨hs_7, by omega, hca_4⟩, (show (l.length - (i + 1)) < (l.length - i) from by omega)⟩
    · refine CW.exit0 ?_
      refine CW.seq ?_
      refine CW.region ?_
      refine RT.eff rfl rfl (OpE.call ent22 rfl ((awake_ok _).mono fun r_6 w_8 h_6 => ?_))
      obtain ⟨rfl, hp_6⟩ := h_6
      have hs_8 : Sat w [cObj g_1 79 [(Value.int .i64 ((l.length : Nat) : Int)), (Value.int .i64 (((kindN l) : Nat) : Int)), lv_1, bv_1, (Value.int .i64 ((last : Nat) : Int)), kv], cL lv_1 3 (encN .i64) (lensK l), cL bv_1 124 (encPt) (ps_1), cParts (ps_1), cL kv 3 (encN .i64) (blk), cL slv_1 3 (encN .i64) (((l).take cut).drop 0), cL slv_2 3 (encN .i64) (((l).take l.length).drop cut)] _ := hs_5.adds hp_6
      refine RT.ev rfl rfl (Ev.assign rfl) ?_
      refine RT.nil ?_
      refine CW.ret ?_
      show PostK _ _ _ _ _ _
      refine post1 rfl rfl ?_
      have hs_9 : Sat w [] w_8 := hs_8.sub ((.cons _ (.cons _ (.cons _ (.cons _ (.cons _ (.cons _ (.cons _ .slnil))))))))
      exact ⟨rfl, hs_9⟩

theorem tokensParts_ok (v : Value) (z : List Int) (c : Int) (w : World) (hv : RdL w v (encI .i64) z) : CallsV Try.prog 7 [v, .int .i64 c] w fun r w' => r = .bool true ∧ Sat w [] w' := by
  rcases Nat.lt_or_ge 4096 z.length with h | h
  · exact tp_limit v z w hv c h
  · by_cases hb : ∃ x ∈ z, x < 0 ∨ 1024 ≤ x
    · exact tp_range v z w hv c h hb
    · obtain ⟨h0, hok⟩ := nats_ok h hb
      by_cases hno : 300 < (z.map Int.toNat).length ∨ c < 0 ∨ (((z.map Int.toNat).length : Nat) : Int) < c
      · exact tp_skip v _ w (hv.nats h0) hok c hno
      · have := tp_ok v _ w (hv.nats h0) hok c.toNat (by omega) (by omega)
        rw [Int.toNat_of_nonneg (by omega)] at this
        exact this

theorem okn_one {n x : Nat} (h2 : n ≤ 4096) (hx : x < 1024) : OkN ((List.replicate n 0).set (n - 1) x) := ⟨by simpa using h2, fun y hy => by
  rcases List.mem_or_eq_of_mem_set hy with h | h
  · have := List.eq_of_mem_replicate h; omega
  · omega⟩

theorem set_get_eq {n x y : Nat} (h : ((List.replicate n 0).set (n - 1) x)[n - 1]? = some y) (h1 : 1 ≤ n) : y = x := by
  rw [List.getElem?_set_self (by simp; omega)] at h; exact (Option.some.inj h).symm

theorem tl_out (n x : Int) (w : World) (hz : n < 0 ∨ 4097 < n) :
    CallsV Try.prog 5 [(Value.int .i64 (n)), (Value.int .i64 (x))] w fun r w' => r = .bool true ∧ Sat w [] w' := by
  have hs0 := Sat.start w
  refine callsV_of Try.func5 rfl rfl ?_
  refine CW.seq ?_
  refine CW.region ?_
  refine RT.ev rfl rfl (Ev.assign rfl) ?_
  refine RT.nil ?_
  refine CW.seq ?_
  refine CW.seq ?_
  refine CW.mid (fun L' w' => Weak [(0, (Value.int .i64 (n))), (1, (Value.int .i64 (x))), (4, (Value.bool false)), (15, (Value.bool (decide (((n : Int) < (0 : Int)) ∨ ((4097 : Int) < (n : Int))))))] L' ∧ Sat w [] w') ?_ ?_
  · refine CW.region ?_
    refine RT.ev rfl rfl (Ev.move rfl) ?_
    refine RT.ev rfl rfl (Ev.lss rfl rfl) ?_
    refine RT.ev rfl rfl (Ev.move rfl) ?_
    by_cases hg_1 : (n : Int) < (0 : Int)
    · refine RT.no rfl rfl rfl (decide_eq_true hg_1) rfl ?_
      refine RT.no rfl rfl rfl (decide_eq_true hg_1) rfl ?_
      refine RT.ev rfl rfl (Ev.pickY rfl (decide_eq_true hg_1) rfl) ?_
      refine RT.nil ?_
      exact ⟨⟨rfl, rfl, rfl, congrArg some (congrArg Value.bool (by simp [hg_1])), trivial⟩, hs0⟩
    · refine RT.yes rfl rfl rfl (decide_eq_false hg_1) ?_
      refine RT.ev rfl rfl (Ev.move rfl) ?_
      refine RT.yes rfl rfl rfl (decide_eq_false hg_1) ?_
      refine RT.ev rfl rfl (Ev.gtr rfl rfl) ?_
      refine RT.ev rfl rfl (Ev.pickN rfl (decide_eq_false hg_1) rfl) ?_
      refine RT.nil ?_
      exact ⟨⟨rfl, rfl, rfl, congrArg some (congrArg Value.bool (by simp [hg_1])), trivial⟩, hs0⟩
  · rintro L' w_1 ⟨hw_1, hs_1⟩
    refine CW.weaken _ hw_1 ?_
    refine CW.condT rfl (decide_eq_true (by omega)) ?_
    refine CW.seq ?_
    refine CW.region ?_
    refine RT.ev rfl rfl (Ev.assign rfl) ?_
    refine RT.nil ?_
    refine CW.ret ?_
    show PostK _ _ _ _ _ _
    refine post1 rfl rfl ?_
    have hs_2 : Sat w [] w_1 := hs_1.sub (.slnil)
    exact ⟨rfl, hs_2⟩

theorem tl_limit (x : Int) (w : World) :
    CallsV Try.prog 5 [(Value.int .i64 ((4097 : Nat) : Int)), (Value.int .i64 (x))] w fun r w' => r = .bool true ∧ Sat w [] w' := by
  have hs0 := Sat.start w
  refine callsV_of Try.func5 rfl rfl ?_
  refine CW.seq ?_
  refine CW.region ?_
  refine RT.ev rfl rfl (Ev.assign rfl) ?_
  refine RT.nil ?_
  refine CW.seq ?_
  refine CW.seq ?_
  refine CW.mid (fun L' w' => Weak [(0, (Value.int .i64 ((4097 : Nat) : Int))), (1, (Value.int .i64 (x))), (4, (Value.bool false)), (15, (Value.bool (decide ((4097 < 0) ∨ (4097 < 4097)))))] L' ∧ Sat w [] w') ?_ ?_
  · refine CW.region ?_
    refine RT.ev rfl rfl (Ev.move rfl) ?_
    refine RT.ev rfl rfl (Ev.lssN (a := 4097) (b := 0) rfl rfl) ?_
    refine RT.ev rfl rfl (Ev.move rfl) ?_
    refine RT.yes rfl rfl rfl (rfl) ?_
    refine RT.ev rfl rfl (Ev.move rfl) ?_
    refine RT.yes rfl rfl rfl (rfl) ?_
    refine RT.ev rfl rfl (Ev.gtrN (a := 4097) (b := 4097) rfl rfl) ?_
    refine RT.ev rfl rfl (Ev.pickN rfl (rfl) rfl) ?_
    refine RT.nil ?_
    exact ⟨⟨rfl, rfl, rfl, congrArg some (congrArg Value.bool (by simp [])), trivial⟩, hs0⟩
  · rintro L' w_1 ⟨hw_1, hs_1⟩
    refine CW.weaken _ hw_1 ?_
    refine CW.condF rfl (decide_eq_false (by omega)) ?_
    refine CW.skip ?_
    refine CW.seq ?_
    refine CW.region ?_
    refine RT.ev rfl rfl (Ev.move rfl) ?_
    refine RT.eff rfl rfl (OpE.makeL (encI .i64) ((0 : Int)) (l := 4097) (c := 4097) sl22 rfl hs_1 rfl rfl (by omega) (by omega) (by omega) fun v_1 w_2 hs_2 hch_1 => ?_)
    have hs_2d : Sat w [cL v_1 3 (encI .i64) (List.replicate (4097) (0 : Int))] _ := hs_2
    refine RT.ev rfl rfl (Ev.assign rfl) ?_
    refine RT.nil ?_
    refine CW.seq ?_
    refine CW.seq ?_
    refine CW.region ?_
    refine RT.ev rfl rfl (Ev.move rfl) ?_
    refine RT.ev rfl rfl (Ev.gtrN (a := 4097) (b := 0) rfl rfl) ?_
    refine RT.nil ?_
    refine CW.condT rfl (decide_eq_true (by omega)) ?_
    have hln : (List.replicate 4097 (0 : Int)).length = 4097 := by simp
    refine CW.region ?_
    refine RT.ev rfl rfl (Ev.move rfl) ?_
    refine RT.ev rfl rfl (Ev.move rfl) ?_
    refine RT.ev rfl rfl (Ev.subI (a := 4097) (b := 1) rfl rfl (by omega) (by omega)) ?_
    refine RT.ev rfl rfl (Ev.move rfl) ?_
    refine RT.ev rfl rfl (Ev.idxL (E := encI .i64) sl22 rfl rfl (hs_2d.rdL 0 rfl) (by simp)) ?_
    refine RT.eff rfl rfl (OpE.setL (a := x) 0 one3 hs_2d rfl rfl rfl rfl (by omega) fun w_3 hs_3 hch_2 => ?_)
    have hs_3d : Sat w [cL v_1 3 (encI .i64) ((List.replicate (4097) (0 : Int)).set (4097 - 1) x)] _ := hs_3
    refine RT.nil ?_
    refine CW.seq ?_
    refine CW.region ?_
    refine RT.ev rfl rfl (Ev.move rfl) ?_
    refine RT.eff rfl rfl (OpE.call ent24 rfl ((build_limit _ ((List.replicate (4097) (0 : Int)).set (4097 - 1) x) _ (hs_3d.rdL 0 rfl) (by simp)).mono fun r_1 w_4 h_1 => ?_))
    obtain ⟨rfl, hp_1⟩ := h_1
    have hs_4 : Sat w [cL v_1 3 (encI .i64) ((List.replicate (4097) (0 : Int)).set (4097 - 1) x)] _ := hs_3d.adds hp_1
    refine RT.ev rfl rfl (Ev.move rfl) ?_
    refine RT.ev rfl rfl (Ev.extract rfl rfl) ?_
    refine RT.ev rfl rfl (Ev.extract rfl rfl) ?_
    refine RT.ev rfl rfl (Ev.assign rfl) ?_
    refine RT.ev rfl rfl (Ev.assign rfl) ?_
    refine RT.nil ?_
    refine CW.seq ?_
    refine CW.block ?_
    refine CW.seq ?_
    refine CW.region ?_
    refine RT.ev rfl rfl (Ev.move rfl) ?_
    refine RT.ev rfl rfl (Ev.gtrN (a := 4097) (b := 4096) rfl rfl) ?_
    refine RT.ev rfl rfl (Ev.assign rfl) ?_
    refine RT.nil ?_
    refine CW.condT rfl (decide_eq_true (by omega)) ?_
    refine CW.seq ?_
    refine CW.region ?_
    refine RT.ev rfl rfl (Ev.move rfl) ?_
    refine RT.ev rfl rfl (Ev.eqlN (a := 2) (b := 2) rfl rfl) ?_
    refine RT.ev rfl rfl (Ev.move rfl) ?_
    refine RT.yes rfl rfl rfl (rfl) ?_
    refine RT.ev rfl rfl (Ev.move rfl) ?_
    refine RT.yes rfl rfl rfl (rfl) ?_
    refine RT.ev rfl rfl (Ev.eqlPt Try.underlying23 rfl rfl) ?_
    refine RT.ev rfl rfl (Ev.pickY rfl (rfl) rfl) ?_
    refine RT.ev rfl rfl (Ev.move rfl) ?_
    refine RT.yes rfl rfl rfl (rfl) ?_
    refine RT.eff rfl rfl (OpE.call ent22 rfl ((awake_ok _).mono fun r_2 w_5 h_2 => ?_))
    obtain ⟨rfl, hp_2⟩ := h_2
    have hs_5 : Sat w [cL v_1 3 (encI .i64) ((List.replicate (4097) (0 : Int)).set (4097 - 1) x)] _ := hs_4.adds hp_2
    refine RT.ev rfl rfl (Ev.pickY rfl (rfl) rfl) ?_
    refine RT.ev rfl rfl (Ev.assign rfl) ?_
    refine RT.nil ?_
    refine CW.ret ?_
    show PostK _ _ _ _ _ _
    refine post1 rfl rfl ?_
    have hs_6 : Sat w [] w_5 := hs_5.sub ((.cons _ .slnil))
    exact ⟨rfl, hs_6⟩

theorem tl_range (n : Nat) (x : Int) (w : World) (h1 : 1 ≤ n) (h2 : n ≤ 4096) (hx : x < 0 ∨ 1024 ≤ x) :
    CallsV Try.prog 5 [(Value.int .i64 ((n : Nat) : Int)), (Value.int .i64 (x))] w fun r w' => r = .bool true ∧ Sat w [] w' := by
  have hs0 := Sat.start w
  refine callsV_of Try.func5 rfl rfl ?_
  refine CW.seq ?_
  refine CW.region ?_
  refine RT.ev rfl rfl (Ev.assign rfl) ?_
  refine RT.nil ?_
  refine CW.seq ?_
  refine CW.seq ?_
  refine CW.mid (fun L' w' => Weak [(0, (Value.int .i64 ((n : Nat) : Int))), (1, (Value.int .i64 (x))), (4, (Value.bool false)), (15, (Value.bool (decide ((n < 0) ∨ (4097 < n)))))] L' ∧ Sat w [] w') ?_ ?_
  · refine CW.region ?_
    refine RT.ev rfl rfl (Ev.move rfl) ?_
    refine RT.ev rfl rfl (Ev.lssN (b := 0) rfl rfl) ?_
    refine RT.ev rfl rfl (Ev.move rfl) ?_
    by_cases hg_1 : n < 0
    · refine RT.no rfl rfl rfl (decide_eq_true hg_1) rfl ?_
      refine RT.no rfl rfl rfl (decide_eq_true hg_1) rfl ?_
      refine RT.ev rfl rfl (Ev.pickY rfl (decide_eq_true hg_1) rfl) ?_
      refine RT.nil ?_
      exact ⟨⟨rfl, rfl, rfl, congrArg some (congrArg Value.bool (by simp [hg_1])), trivial⟩, hs0⟩
    · refine RT.yes rfl rfl rfl (decide_eq_false hg_1) ?_
      refine RT.ev rfl rfl (Ev.move rfl) ?_
      refine RT.yes rfl rfl rfl (decide_eq_false hg_1) ?_
      refine RT.ev rfl rfl (Ev.gtrN (b := 4097) rfl rfl) ?_
      refine RT.ev rfl rfl (Ev.pickN rfl (decide_eq_false hg_1) rfl) ?_
      refine RT.nil ?_
      exact ⟨⟨rfl, rfl, rfl, congrArg some (congrArg Value.bool (by simp [hg_1])), trivial⟩, hs0⟩
  · rintro L' w_1 ⟨hw_1, hs_1⟩
    refine CW.weaken _ hw_1 ?_
    refine CW.condF rfl (decide_eq_false (by omega)) ?_
    refine CW.skip ?_
    refine CW.seq ?_
    refine CW.region ?_
    refine RT.ev rfl rfl (Ev.move rfl) ?_
    refine RT.eff rfl rfl (OpE.makeL (encI .i64) ((0 : Int)) sl22 rfl hs_1 rfl rfl (by omega) (by omega) (by omega) fun v_1 w_2 hs_2 hch_1 => ?_)
    have hs_2d : Sat w [cL v_1 3 (encI .i64) (List.replicate (n) (0 : Int))] _ := hs_2
    refine RT.ev rfl rfl (Ev.assign rfl) ?_
    refine RT.nil ?_
    refine CW.seq ?_
    refine CW.seq ?_
    refine CW.region ?_
    refine RT.ev rfl rfl (Ev.move rfl) ?_
    refine RT.ev rfl rfl (Ev.gtrN (b := 0) rfl rfl) ?_
    refine RT.nil ?_
    refine CW.condT rfl (decide_eq_true (by omega)) ?_
    have hln : (List.replicate n (0 : Int)).length = n := by simp
    refine CW.region ?_
    refine RT.ev rfl rfl (Ev.move rfl) ?_
    refine RT.ev rfl rfl (Ev.move rfl) ?_
    refine RT.ev rfl rfl (Ev.subI (b := 1) rfl rfl (by omega) (by omega)) ?_
    refine RT.ev rfl rfl (Ev.move rfl) ?_
    refine RT.ev rfl rfl (Ev.idxL (E := encI .i64) sl22 rfl rfl (hs_2d.rdL 0 rfl) (by simp <;> omega)) ?_
    refine RT.eff rfl rfl (OpE.setL (a := x) 0 one3 hs_2d rfl rfl rfl rfl (by omega) fun w_3 hs_3 hch_2 => ?_)
    have hs_3d : Sat w [cL v_1 3 (encI .i64) ((List.replicate (n) (0 : Int)).set (n - 1) x)] _ := hs_3
    refine RT.nil ?_
    refine CW.seq ?_
    refine CW.region ?_
    refine RT.ev rfl rfl (Ev.move rfl) ?_
    refine RT.eff rfl rfl (OpE.call ent24 rfl ((build_range _ ((List.replicate (n) (0 : Int)).set (n - 1) x) _ (hs_3d.rdL 0 rfl) (by simp <;> omega) (⟨x, List.mem_set (by simp <;> omega) x, hx⟩)).mono fun r_1 w_4 h_1 => ?_))
    obtain ⟨rfl, hp_1⟩ := h_1
    have hs_4 : Sat w [cL v_1 3 (encI .i64) ((List.replicate (n) (0 : Int)).set (n - 1) x)] _ := hs_3d.adds hp_1
    refine RT.ev rfl rfl (Ev.move rfl) ?_
    refine RT.ev rfl rfl (Ev.extract rfl rfl) ?_
    refine RT.ev rfl rfl (Ev.extract rfl rfl) ?_
    refine RT.ev rfl rfl (Ev.assign rfl) ?_
    refine RT.ev rfl rfl (Ev.assign rfl) ?_
    refine RT.nil ?_
    refine CW.seq ?_
    refine CW.block ?_
    refine CW.seq ?_
    refine CW.region ?_
    refine RT.ev rfl rfl (Ev.move rfl) ?_
    refine RT.ev rfl rfl (Ev.gtrN (b := 4096) rfl rfl) ?_
    refine RT.ev rfl rfl (Ev.assign rfl) ?_
    refine RT.nil ?_
    refine CW.condF rfl (decide_eq_false (by omega)) ?_
    refine CW.seq ?_
    rcases Int.lt_or_le x 0 with hw | hw
    · refine CW.region ?_
      refine RT.ev rfl rfl (Ev.move rfl) ?_
      refine RT.ev rfl rfl (Ev.gtrN (b := 0) rfl rfl) ?_
      refine RT.ev rfl rfl (Ev.move rfl) ?_
      refine RT.yes rfl rfl rfl (decide_eq_true (by omega)) ?_
      refine RT.ev rfl rfl (Ev.move rfl) ?_
      refine RT.yes rfl rfl rfl (decide_eq_true (by omega)) ?_
      refine RT.ev rfl rfl (Ev.lss rfl rfl) ?_
      refine RT.yes rfl rfl rfl (decide_eq_true (by omega)) ?_
      refine RT.ev rfl rfl (Ev.move rfl) ?_
      refine RT.no rfl rfl rfl (decide_eq_true hw) rfl ?_
      refine RT.no rfl rfl rfl (decide_eq_true hw) rfl ?_
      refine RT.yes rfl rfl rfl (decide_eq_true (by omega)) ?_
      refine RT.ev rfl rfl (Ev.pickY rfl (decide_eq_true hw) rfl) ?_
      refine RT.ev rfl rfl (Ev.pickY rfl (decide_eq_true (by omega)) rfl) ?_
      refine RT.ev rfl rfl (Ev.assign rfl) ?_
      refine RT.nil ?_
      refine CW.condT rfl (rfl) ?_
      refine CW.seq ?_
      refine CW.region ?_
      refine RT.ev rfl rfl (Ev.move rfl) ?_
      refine RT.ev rfl rfl (Ev.eqlN (a := 8) (b := 8) rfl rfl) ?_
      refine RT.ev rfl rfl (Ev.move rfl) ?_
      refine RT.yes rfl rfl rfl (rfl) ?_
      refine RT.ev rfl rfl (Ev.move rfl) ?_
      refine RT.yes rfl rfl rfl (rfl) ?_
      refine RT.ev rfl rfl (Ev.eqlPt Try.underlying23 rfl rfl) ?_
      refine RT.ev rfl rfl (Ev.pickY rfl (rfl) rfl) ?_
      refine RT.ev rfl rfl (Ev.move rfl) ?_
      refine RT.yes rfl rfl rfl (rfl) ?_
      refine RT.eff rfl rfl (OpE.call ent22 rfl ((awake_ok _).mono fun r_2 w_5 h_2 => ?_))
      obtain ⟨rfl, hp_2⟩ := h_2
      have hs_5 : Sat w [cL v_1 3 (encI .i64) ((List.replicate (n) (0 : Int)).set (n - 1) x)] _ := hs_4.adds hp_2
      refine RT.ev rfl rfl (Ev.pickY rfl (rfl) rfl) ?_
      refine RT.ev rfl rfl (Ev.assign rfl) ?_
      refine RT.nil ?_
      refine CW.ret ?_
      show PostK _ _ _ _ _ _
      refine post1 rfl rfl ?_
      have hs_6 : Sat w [] w_5 := hs_5.sub ((.cons _ .slnil))
      exact ⟨rfl, hs_6⟩
    · refine CW.region ?_
      refine RT.ev rfl rfl (Ev.move rfl) ?_
      refine RT.ev rfl rfl (Ev.gtrN (b := 0) rfl rfl) ?_
      refine RT.ev rfl rfl (Ev.move rfl) ?_
      refine RT.yes rfl rfl rfl (decide_eq_true (by omega)) ?_
      refine RT.ev rfl rfl (Ev.move rfl) ?_
      refine RT.yes rfl rfl rfl (decide_eq_true (by omega)) ?_
      refine RT.ev rfl rfl (Ev.lss rfl rfl) ?_
      refine RT.yes rfl rfl rfl (decide_eq_true (by omega)) ?_
      refine RT.ev rfl rfl (Ev.move rfl) ?_
      refine RT.yes rfl rfl rfl (decide_eq_false (by omega)) ?_
      refine RT.ev rfl rfl (Ev.move rfl) ?_
      refine RT.yes rfl rfl rfl (decide_eq_false (by omega)) ?_
      refine RT.ev rfl rfl (Ev.geq rfl rfl) ?_
      refine RT.yes rfl rfl rfl (decide_eq_true (by omega)) ?_
      refine RT.ev rfl rfl (Ev.pickN rfl (decide_eq_false (by omega)) rfl) ?_
      refine RT.ev rfl rfl (Ev.pickY rfl (decide_eq_true (by omega)) rfl) ?_
      refine RT.ev rfl rfl (Ev.assign rfl) ?_
      refine RT.nil ?_
      refine CW.condT rfl (decide_eq_true (by omega)) ?_
      refine CW.seq ?_
      refine CW.region ?_
      refine RT.ev rfl rfl (Ev.move rfl) ?_
      refine RT.ev rfl rfl (Ev.eqlN (a := 8) (b := 8) rfl rfl) ?_
      refine RT.ev rfl rfl (Ev.move rfl) ?_
      refine RT.yes rfl rfl rfl (rfl) ?_
      refine RT.ev rfl rfl (Ev.move rfl) ?_
      refine RT.yes rfl rfl rfl (rfl) ?_
      refine RT.ev rfl rfl (Ev.eqlPt Try.underlying23 rfl rfl) ?_
      refine RT.ev rfl rfl (Ev.pickY rfl (rfl) rfl) ?_
      refine RT.ev rfl rfl (Ev.move rfl) ?_
      refine RT.yes rfl rfl rfl (rfl) ?_
      refine RT.eff rfl rfl (OpE.call ent22 rfl ((awake_ok _).mono fun r_3 w_6 h_3 => ?_))
      obtain ⟨rfl, hp_3⟩ := h_3
      have hs_7 : Sat w [cL v_1 3 (encI .i64) ((List.replicate (n) (0 : Int)).set (n - 1) x)] _ := hs_4.adds hp_3
      refine RT.ev rfl rfl (Ev.pickY rfl (rfl) rfl) ?_
      refine RT.ev rfl rfl (Ev.assign rfl) ?_
      refine RT.nil ?_
      refine CW.ret ?_
      show PostK _ _ _ _ _ _
      refine post1 rfl rfl ?_
      have hs_8 : Sat w [] w_6 := hs_7.sub ((.cons _ .slnil))
      exact ⟨rfl, hs_8⟩

theorem tl_zero (x : Int) (w : World) :
    CallsV Try.prog 5 [(Value.int .i64 ((0 : Nat) : Int)), (Value.int .i64 (x))] w fun r w' => r = .bool true ∧ Sat w [] w' := by
  have hs0 := Sat.start w
  refine callsV_of Try.func5 rfl rfl ?_
  refine CW.seq ?_
  refine CW.region ?_
  refine RT.ev rfl rfl (Ev.assign rfl) ?_
  refine RT.nil ?_
  refine CW.seq ?_
  refine CW.seq ?_
  refine CW.mid (fun L' w' => Weak [(0, (Value.int .i64 ((0 : Nat) : Int))), (1, (Value.int .i64 (x))), (4, (Value.bool false)), (15, (Value.bool (decide ((0 < 0) ∨ (4097 < 0)))))] L' ∧ Sat w [] w') ?_ ?_
  · refine CW.region ?_
    refine RT.ev rfl rfl (Ev.move rfl) ?_
    refine RT.ev rfl rfl (Ev.lssN (a := 0) (b := 0) rfl rfl) ?_
    refine RT.ev rfl rfl (Ev.move rfl) ?_
    refine RT.yes rfl rfl rfl (rfl) ?_
    refine RT.ev rfl rfl (Ev.move rfl) ?_
    refine RT.yes rfl rfl rfl (rfl) ?_
    refine RT.ev rfl rfl (Ev.gtrN (a := 0) (b := 4097) rfl rfl) ?_
    refine RT.ev rfl rfl (Ev.pickN rfl (rfl) rfl) ?_
    refine RT.nil ?_
    exact ⟨⟨rfl, rfl, rfl, congrArg some (congrArg Value.bool (by simp [])), trivial⟩, hs0⟩
  · rintro L' w_1 ⟨hw_1, hs_1⟩
    refine CW.weaken _ hw_1 ?_
    refine CW.condF rfl (decide_eq_false (by omega)) ?_
    refine CW.skip ?_
    refine CW.seq ?_
    refine CW.region ?_
    refine RT.ev rfl rfl (Ev.move rfl) ?_
    refine RT.eff rfl rfl (OpE.makeL (encN .i64) (0) (l := 0) (c := 0) sl22 rfl hs_1 rfl rfl (by omega) (by omega) (by omega) fun v_1 w_2 hs_2 hch_1 => ?_)
    have hs_2d : Sat w [cL v_1 3 (encN .i64) ([])] _ := hs_2
    refine RT.ev rfl rfl (Ev.assign rfl) ?_
    refine RT.nil ?_
    refine CW.seq ?_
    refine CW.seq ?_
    refine CW.region ?_
    refine RT.ev rfl rfl (Ev.move rfl) ?_
    refine RT.ev rfl rfl (Ev.gtrN (a := 0) (b := 0) rfl rfl) ?_
    refine RT.nil ?_
    refine CW.condF rfl (decide_eq_false (by omega)) ?_
    refine CW.skip ?_
    refine CW.seq ?_
    refine CW.region ?_
    refine RT.ev rfl rfl (Ev.move rfl) ?_
    refine RT.eff rfl rfl (OpE.call ent24 rfl ((build_ok _ ([]) _ (hs_2d.rdL 0 rfl) (⟨by simp, by simp⟩)).mono fun r_1 w_3 h_1 => ?_))
    obtain ⟨g_1, lv_1, bv_1, ps_1, rfl, hps_1, hp_1⟩ := h_1
    have hs_3 : Sat w [cL v_1 3 (encN .i64) ([]), cObj g_1 79 [(Value.int .i64 (((([])).length : Nat) : Int)), (Value.int .i64 (((kindN ([])) : Nat) : Int)), lv_1, bv_1, (Value.int .i64 ((0 : Nat) : Int)), (Value.slice none 0 0)], cL lv_1 3 (encN .i64) (lensK ([])), cL bv_1 124 (encPt) (ps_1), cParts (ps_1), cL (Value.slice none 0 0) 3 (encN .i64) ([])] _ := hs_2d.adds hp_1
    refine RT.ev rfl rfl (Ev.move rfl) ?_
    refine RT.ev rfl rfl (Ev.extract rfl rfl) ?_
    refine RT.ev rfl rfl (Ev.extract rfl rfl) ?_
    refine RT.ev rfl rfl (Ev.assign rfl) ?_
    refine RT.ev rfl rfl (Ev.assign rfl) ?_
    refine RT.nil ?_
    refine CW.seq ?_
    refine CW.block ?_
    refine CW.seq ?_
    refine CW.region ?_
    refine RT.ev rfl rfl (Ev.move rfl) ?_
    refine RT.ev rfl rfl (Ev.gtrN (a := 0) (b := 4096) rfl rfl) ?_
    refine RT.ev rfl rfl (Ev.assign rfl) ?_
    refine RT.nil ?_
    refine CW.condF rfl (rfl) ?_
    refine CW.seq ?_
    refine CW.region ?_
    refine RT.ev rfl rfl (Ev.move rfl) ?_
    refine RT.ev rfl rfl (Ev.gtrN (a := 0) (b := 0) rfl rfl) ?_
    refine RT.ev rfl rfl (Ev.move rfl) ?_
    refine RT.no rfl rfl rfl (rfl) rfl ?_
    refine RT.no rfl rfl rfl (rfl) rfl ?_
    refine RT.no rfl rfl rfl (rfl) rfl ?_
    refine RT.noU rfl rfl rfl rfl ?_
    refine RT.noU rfl rfl rfl rfl ?_
    refine RT.no rfl rfl rfl (rfl) rfl ?_
    refine RT.ev rfl rfl (Ev.pickN rfl (rfl) rfl) ?_
    refine RT.ev rfl rfl (Ev.assign rfl) ?_
    refine RT.nil ?_
    refine CW.condF rfl (rfl) ?_
    refine CW.skip ?_
    refine CW.seq ?_
    refine CW.seq ?_
    refine CW.region ?_
    refine RT.ev rfl rfl (Ev.move rfl) ?_
    refine RT.ev rfl rfl (Ev.neqN (a := 0) (b := 0) rfl rfl) ?_
    refine RT.ev rfl rfl (Ev.move rfl) ?_
    refine RT.yes rfl rfl rfl (rfl) ?_
    refine RT.ev rfl rfl (Ev.move rfl) ?_
    refine RT.yes rfl rfl rfl (rfl) ?_
    refine RT.ev rfl rfl (Ev.eqlPt Try.underlying23 rfl rfl) ?_
    refine RT.ev rfl rfl (Ev.pickN rfl (rfl) rfl) ?_
    refine RT.nil ?_
    refine CW.condF rfl (rfl) ?_
    refine CW.skip ?_
    refine CW.seq ?_
    refine CW.region ?_
    refine RT.ev rfl rfl (Ev.move rfl) ?_
    refine RT.ev rfl rfl (Ev.move rfl) ?_
    refine RT.ev rfl rfl (Ev.sub (b := (1 : Int)) (a := (0 : Int)) rfl rfl (by unfold inI64; omega)) ?_
    refine RT.eff rfl rfl (OpE.call ent23 rfl ((sat_no _ ((([])).length) ((0 - 1)) _ (hs_3.cell (i := 1) (j := 0) rfl rfl) (.inl (by omega))).mono fun r_2 w_4 h_2 => ?_))
    obtain ⟨rfl, hp_2⟩ := h_2
    have hs_4 : Sat w [cL v_1 3 (encN .i64) ([]), cObj g_1 79 [(Value.int .i64 (((([])).length : Nat) : Int)), (Value.int .i64 (((kindN ([])) : Nat) : Int)), lv_1, bv_1, (Value.int .i64 ((0 : Nat) : Int)), (Value.slice none 0 0)], cL lv_1 3 (encN .i64) (lensK ([])), cL bv_1 124 (encPt) (ps_1), cParts (ps_1), cL (Value.slice none 0 0) 3 (encN .i64) ([])] _ := hs_3.adds hp_2
    refine RT.ev rfl rfl (Ev.move rfl) ?_
    refine RT.ev rfl rfl (Ev.extract rfl rfl) ?_
    refine RT.ev rfl rfl (Ev.extract rfl rfl) ?_
    refine RT.ev rfl rfl (Ev.assign rfl) ?_
    refine RT.ev rfl rfl (Ev.assign rfl) ?_
    refine RT.nil ?_
    refine CW.seq ?_
    refine CW.weaken [(0, _), (1, _), (4, _), (5, _), (6, _), (7, _), (8, _), (9, _), (15, _), (19, _), (30, _), (42, _), (67, _)] ⟨rfl, rfl, rfl, rfl, rfl, rfl, rfl, rfl, rfl, rfl, rfl, rfl, rfl, trivial⟩ ?_
    refine CW.region ?_
    refine RT.ev rfl rfl (Ev.move rfl) ?_
    refine RT.eff rfl rfl (OpE.call ent21 rfl ((slen_ok _ ((([])).length) _ (hs_4.cell (i := 1) (j := 0) rfl rfl)).mono fun r_3 w_5 h_3 => ?_))
    obtain ⟨rfl, hp_3⟩ := h_3
    have hs_5 : Sat w [cL v_1 3 (encN .i64) ([]), cObj g_1 79 [(Value.int .i64 (((([])).length : Nat) : Int)), (Value.int .i64 (((kindN ([])) : Nat) : Int)), lv_1, bv_1, (Value.int .i64 ((0 : Nat) : Int)), (Value.slice none 0 0)], cL lv_1 3 (encN .i64) (lensK ([])), cL bv_1 124 (encPt) (ps_1), cParts (ps_1), cL (Value.slice none 0 0) 3 (encN .i64) ([])] _ := hs_4.adds hp_3
    refine RT.ev rfl rfl (Ev.move rfl) ?_
    refine RT.ev rfl rfl (Ev.eqlN (b := 0) rfl rfl) ?_
    refine RT.ev rfl rfl (Ev.move rfl) ?_
    refine RT.yes rfl rfl rfl (decide_eq_true (by simp)) ?_
    refine RT.ev rfl rfl (Ev.move rfl) ?_
    refine RT.yes rfl rfl rfl (decide_eq_true (by simp)) ?_
    refine RT.ev rfl rfl (Ev.move rfl) ?_
    refine RT.yes rfl rfl rfl (decide_eq_true (by simp)) ?_
    refine RT.ev rfl rfl (Ev.gtrN (a := 0) (b := 0) rfl rfl) ?_
    refine RT.yes rfl rfl rfl (decide_eq_true (by simp)) ?_
    refine RT.ev rfl rfl (Ev.eqlB Try.underlying4 rfl rfl) ?_
    refine RT.ev rfl rfl (Ev.pickY rfl (decide_eq_true (by simp)) rfl) ?_
    refine RT.ev rfl rfl (Ev.move rfl) ?_
    refine RT.yes rfl rfl rfl (decide_eq_true rfl) ?_
    refine RT.ev rfl rfl (Ev.move rfl) ?_
    refine RT.yes rfl rfl rfl (decide_eq_true rfl) ?_
    refine RT.ev rfl rfl (Ev.eqlN (a := 0) (b := 0) rfl rfl) ?_
    refine RT.yes rfl rfl rfl (decide_eq_true rfl) ?_
    refine RT.ev rfl rfl (Ev.move rfl) ?_
    refine RT.no rfl rfl rfl (decide_eq_true rfl) rfl ?_
    refine RT.no rfl rfl rfl (decide_eq_true rfl) rfl ?_
    refine RT.no rfl rfl rfl (decide_eq_true rfl) rfl ?_
    refine RT.yes rfl rfl rfl (decide_eq_true rfl) ?_
    refine RT.ev rfl rfl (Ev.pickY rfl (decide_eq_true rfl) rfl) ?_
    refine RT.ev rfl rfl (Ev.pickY rfl (decide_eq_true rfl) rfl) ?_
    refine RT.ev rfl rfl (Ev.move rfl) ?_
    refine RT.yes rfl rfl rfl (rfl) ?_
    refine RT.eff rfl rfl (OpE.call ent22 rfl ((awake_ok _).mono fun r_4 w_6 h_4 => ?_))
    obtain ⟨rfl, hp_4⟩ := h_4
    have hs_6 : Sat w [cL v_1 3 (encN .i64) ([]), cObj g_1 79 [(Value.int .i64 (((([])).length : Nat) : Int)), (Value.int .i64 (((kindN ([])) : Nat) : Int)), lv_1, bv_1, (Value.int .i64 ((0 : Nat) : Int)), (Value.slice none 0 0)], cL lv_1 3 (encN .i64) (lensK ([])), cL bv_1 124 (encPt) (ps_1), cParts (ps_1), cL (Value.slice none 0 0) 3 (encN .i64) ([])] _ := hs_5.adds hp_4
    refine RT.ev rfl rfl (Ev.pickY rfl (rfl) rfl) ?_
    refine RT.ev rfl rfl (Ev.assign rfl) ?_
    refine RT.nil ?_
    refine CW.ret ?_
    show PostK _ _ _ _ _ _
    refine post1 rfl rfl ?_
    have hs_7 : Sat w [] w_6 := hs_6.sub ((.cons _ (.cons _ (.cons _ (.cons _ (.cons _ (.cons _ .slnil)))))))
    exact ⟨rfl, hs_7⟩

theorem tl_ok (n x : Nat) (w : World) (h1 : 1 ≤ n) (h2 : n ≤ 4096) (hx : x < 1024) :
    CallsV Try.prog 5 [(Value.int .i64 ((n : Nat) : Int)), (Value.int .i64 ((x : Nat) : Int))] w fun r w' => r = .bool true ∧ Sat w [] w' := by
  have hs0 := Sat.start w
  refine callsV_of Try.func5 rfl rfl ?_
  refine CW.seq ?_
  refine CW.region ?_
  refine RT.ev rfl rfl (Ev.assign rfl) ?_
  refine RT.nil ?_
  refine CW.seq ?_
  refine CW.seq ?_
  refine CW.mid (fun L' w' => Weak [(0, (Value.int .i64 ((n : Nat) : Int))), (1, (Value.int .i64 ((x : Nat) : Int))), (4, (Value.bool false)), (15, (Value.bool (decide ((n < 0) ∨ (4097 < n)))))] L' ∧ Sat w [] w') ?_ ?_
  · refine CW.region ?_
    refine RT.ev rfl rfl (Ev.move rfl) ?_
    refine RT.ev rfl rfl (Ev.lssN (b := 0) rfl rfl) ?_
    refine RT.ev rfl rfl (Ev.move rfl) ?_
    by_cases hg_1 : n < 0
    · refine RT.no rfl rfl rfl (decide_eq_true hg_1) rfl ?_
      refine RT.no rfl rfl rfl (decide_eq_true hg_1) rfl ?_
      refine RT.ev rfl rfl (Ev.pickY rfl (decide_eq_true hg_1) rfl) ?_
      refine RT.nil ?_
      exact ⟨⟨rfl, rfl, rfl, congrArg some (congrArg Value.bool (by simp [hg_1])), trivial⟩, hs0⟩
    · refine RT.yes rfl rfl rfl (decide_eq_false hg_1) ?_
      refine RT.ev rfl rfl (Ev.move rfl) ?_
      refine RT.yes rfl rfl rfl (decide_eq_false hg_1) ?_
      refine RT.ev rfl rfl (Ev.gtrN (b := 4097) rfl rfl) ?_
      refine RT.ev rfl rfl (Ev.pickN rfl (decide_eq_false hg_1) rfl) ?_
      refine RT.nil ?_
      exact ⟨⟨rfl, rfl, rfl, congrArg some (congrArg Value.bool (by simp [hg_1])), trivial⟩, hs0⟩
  · rintro L' w_1 ⟨hw_1, hs_1⟩
    refine CW.weaken _ hw_1 ?_
    refine CW.condF rfl (decide_eq_false (by omega)) ?_
    refine CW.skip ?_
    refine CW.seq ?_
    refine CW.region ?_
    refine RT.ev rfl rfl (Ev.move rfl) ?_
    refine RT.eff rfl rfl (OpE.makeL (encN .i64) (0) sl22 rfl hs_1 rfl rfl (by omega) (by omega) (by omega) fun v_1 w_2 hs_2 hch_1 => ?_)
    have hs_2d : Sat w [cL v_1 3 (encN .i64) (List.replicate (n) 0)] _ := hs_2
    refine RT.ev rfl rfl (Ev.assign rfl) ?_
    refine RT.nil ?_
    refine CW.seq ?_
    refine CW.seq ?_
    refine CW.region ?_
    refine RT.ev rfl rfl (Ev.move rfl) ?_
    refine RT.ev rfl rfl (Ev.gtrN (b := 0) rfl rfl) ?_
    refine RT.nil ?_
    refine CW.condT rfl (decide_eq_true (by omega)) ?_
    have hln : (List.replicate n 0).length = n := by simp
    refine CW.region ?_
    refine RT.ev rfl rfl (Ev.move rfl) ?_
    refine RT.ev rfl rfl (Ev.move rfl) ?_
    refine RT.ev rfl rfl (Ev.subI (b := 1) rfl rfl (by omega) (by omega)) ?_
    refine RT.ev rfl rfl (Ev.move rfl) ?_
    refine RT.ev rfl rfl (Ev.idxL (E := encN .i64) sl22 rfl rfl (hs_2d.rdL 0 rfl) (by simp <;> omega)) ?_
    refine RT.eff rfl rfl (OpE.setL (a := x) 0 one3 hs_2d rfl rfl rfl rfl (by omega) fun w_3 hs_3 hch_2 => ?_)
    have hs_3d : Sat w [cL v_1 3 (encN .i64) ((List.replicate (n) 0).set (n - 1) x)] _ := hs_3
    refine RT.nil ?_
    refine CW.seq ?_
    refine CW.region ?_
    refine RT.ev rfl rfl (Ev.move rfl) ?_
    refine RT.eff rfl rfl (OpE.call ent24 rfl ((build_ok _ ((List.replicate (n) 0).set (n - 1) x) _ (hs_3d.rdL 0 rfl) (okn_one h2 hx)).mono fun r_1 w_4 h_1 => ?_))
    obtain ⟨g_1, lv_1, bv_1, ps_1, rfl, hps_1, hp_1⟩ := h_1
    have hs_4 : Sat w [cL v_1 3 (encN .i64) ((List.replicate (n) 0).set (n - 1) x), cObj g_1 79 [(Value.int .i64 (((((List.replicate (n) 0).set (n - 1) x)).length : Nat) : Int)), (Value.int .i64 (((kindN ((List.replicate (n) 0).set (n - 1) x)) : Nat) : Int)), lv_1, bv_1, (Value.int .i64 ((0 : Nat) : Int)), (Value.slice none 0 0)], cL lv_1 3 (encN .i64) (lensK ((List.replicate (n) 0).set (n - 1) x)), cL bv_1 124 (encPt) (ps_1), cParts (ps_1), cL (Value.slice none 0 0) 3 (encN .i64) ([])] _ := hs_3d.adds hp_1
    refine RT.ev rfl rfl (Ev.move rfl) ?_
    refine RT.ev rfl rfl (Ev.extract rfl rfl) ?_
    refine RT.ev rfl rfl (Ev.extract rfl rfl) ?_
    refine RT.ev rfl rfl (Ev.assign rfl) ?_
    refine RT.ev rfl rfl (Ev.assign rfl) ?_
    refine RT.nil ?_
    refine CW.seq ?_
    refine CW.block ?_
    refine CW.seq ?_
    refine CW.region ?_
    refine RT.ev rfl rfl (Ev.move rfl) ?_
    refine RT.ev rfl rfl (Ev.gtrN (b := 4096) rfl rfl) ?_
    refine RT.ev rfl rfl (Ev.assign rfl) ?_
    refine RT.nil ?_
    refine CW.condF rfl (decide_eq_false (by omega)) ?_
    refine CW.seq ?_
    refine CW.region ?_
    refine RT.ev rfl rfl (Ev.move rfl) ?_
    refine RT.ev rfl rfl (Ev.gtrN (b := 0) rfl rfl) ?_
    refine RT.ev rfl rfl (Ev.move rfl) ?_
    refine RT.yes rfl rfl rfl (decide_eq_true (by omega)) ?_
    refine RT.ev rfl rfl (Ev.move rfl) ?_
    refine RT.yes rfl rfl rfl (decide_eq_true (by omega)) ?_
    refine RT.ev rfl rfl (Ev.lssN (b := 0) rfl rfl) ?_
    refine RT.yes rfl rfl rfl (decide_eq_true (by omega)) ?_
    refine RT.ev rfl rfl (Ev.move rfl) ?_
    refine RT.yes rfl rfl rfl (decide_eq_false (by omega)) ?_
    refine RT.ev rfl rfl (Ev.move rfl) ?_
    refine RT.yes rfl rfl rfl (decide_eq_false (by omega)) ?_
    refine RT.ev rfl rfl (Ev.geqN (b := 1024) rfl rfl) ?_
    refine RT.yes rfl rfl rfl (decide_eq_true (by omega)) ?_
    refine RT.ev rfl rfl (Ev.pickN rfl (decide_eq_false (by omega)) rfl) ?_
    refine RT.ev rfl rfl (Ev.pickY rfl (decide_eq_true (by omega)) rfl) ?_
    refine RT.ev rfl rfl (Ev.assign rfl) ?_
    refine RT.nil ?_
    refine CW.condF rfl (decide_eq_false (by omega)) ?_
    refine CW.skip ?_
    refine CW.seq ?_
    refine CW.seq ?_
    refine CW.region ?_
    refine RT.ev rfl rfl (Ev.move rfl) ?_
    refine RT.ev rfl rfl (Ev.neqN (a := 0) (b := 0) rfl rfl) ?_
    refine RT.ev rfl rfl (Ev.move rfl) ?_
    refine RT.yes rfl rfl rfl (rfl) ?_
    refine RT.ev rfl rfl (Ev.move rfl) ?_
    refine RT.yes rfl rfl rfl (rfl) ?_
    refine RT.ev rfl rfl (Ev.eqlPt Try.underlying23 rfl rfl) ?_
    refine RT.ev rfl rfl (Ev.pickN rfl (rfl) rfl) ?_
    refine RT.nil ?_
    refine CW.condF rfl (rfl) ?_
    refine CW.skip ?_
    refine CW.seq ?_
    refine CW.weaken [(0, _), (1, _), (4, _), (5, _), (6, _), (7, _), (15, _), (19, _), (30, _), (42, _), (67, _)] ⟨rfl, rfl, rfl, rfl, rfl, rfl, rfl, rfl, rfl, rfl, rfl, trivial⟩ ?_
    refine CW.region ?_
    refine RT.ev rfl rfl (Ev.move rfl) ?_
    refine RT.ev rfl rfl (Ev.move rfl) ?_
    refine RT.ev rfl rfl (Ev.subI (b := 1) rfl rfl (by omega) (by omega)) ?_
    have hA_1 : Sat w ([cObj g_1 79 [(Value.int .i64 (((((List.replicate (n) 0).set (n - 1) x)).length : Nat) : Int)), (Value.int .i64 (((kindN ((List.replicate (n) 0).set (n - 1) x)) : Nat) : Int)), lv_1, bv_1, (Value.int .i64 ((0 : Nat) : Int)), (Value.slice none 0 0)], cL lv_1 3 (encN .i64) (lensK ((List.replicate (n) 0).set (n - 1) x)), cL bv_1 124 (encPt) (ps_1), cParts (ps_1), cL (Value.slice none 0 0) 3 (encN .i64) ([])] ++ ([cL v_1 3 (encN .i64) ((List.replicate (n) 0).set (n - 1) x)] ++ [])) _ := (Sat.order [1, 2, 3, 4, 5, 0] (by decide) hs_4.tail).cut 5
    refine RT.eff rfl rfl (OpE.call ent23 rfl ((sat_ok _ _ _ _ _ _ _ (((List.replicate n 0).set (n - 1) x)) ([]) (ps_1) (0) hA_1 (okn_one h2 hx) (hps_1) (CacheOk.zero _) ((n - 1)) (by simp <;> omega)).mono fun r_2 w_5 h_2 => ?_))
    obtain ⟨ax_1, hax_1, rfl, last_1, kv_1, blk_1, hca_1, hp_2⟩ := h_2
    have hs_5 : Sat w [cL v_1 3 (encN .i64) ((List.replicate (n) 0).set (n - 1) x), cObj g_1 79 [(Value.int .i64 (((((List.replicate n 0).set (n - 1) x)).length : Nat) : Int)), (Value.int .i64 (((kindN ((List.replicate n 0).set (n - 1) x)) : Nat) : Int)), lv_1, bv_1, (Value.int .i64 ((last_1 : Nat) : Int)), kv_1], cL lv_1 3 (encN .i64) (lensK ((List.replicate n 0).set (n - 1) x)), cL bv_1 124 (encPt) (ps_1), cParts (ps_1), cL kv_1 3 (encN .i64) (blk_1)] _ := (Sat.order [5, 0, 1, 2, 3, 4] (by decide) hp_2.join).untail
    refine RT.ev rfl rfl (Ev.move rfl) ?_
    refine RT.ev rfl rfl (Ev.extract rfl rfl) ?_
    refine RT.ev rfl rfl (Ev.extract rfl rfl) ?_
    refine RT.ev rfl rfl (Ev.assign rfl) ?_
    refine RT.ev rfl rfl (Ev.assign rfl) ?_
    refine RT.nil ?_
    refine CW.seq ?_
    refine CW.region ?_
    refine RT.ev rfl rfl (Ev.move rfl) ?_
    refine RT.eff rfl rfl (OpE.call ent21 rfl ((slen_ok _ ((((List.replicate n 0).set (n - 1) x)).length) _ (hs_5.cell (i := 1) (j := 0) rfl rfl)).mono fun r_3 w_6 h_3 => ?_))
    obtain ⟨rfl, hp_3⟩ := h_3
    have hs_6 : Sat w [cL v_1 3 (encN .i64) ((List.replicate (n) 0).set (n - 1) x), cObj g_1 79 [(Value.int .i64 (((((List.replicate n 0).set (n - 1) x)).length : Nat) : Int)), (Value.int .i64 (((kindN ((List.replicate n 0).set (n - 1) x)) : Nat) : Int)), lv_1, bv_1, (Value.int .i64 ((last_1 : Nat) : Int)), kv_1], cL lv_1 3 (encN .i64) (lensK ((List.replicate n 0).set (n - 1) x)), cL bv_1 124 (encPt) (ps_1), cParts (ps_1), cL kv_1 3 (encN .i64) (blk_1)] _ := hs_5.adds hp_3
    refine RT.ev rfl rfl (Ev.move rfl) ?_
    refine RT.ev rfl rfl (Ev.eqlN rfl rfl) ?_
    refine RT.ev rfl rfl (Ev.move rfl) ?_
    refine RT.yes rfl rfl rfl (decide_eq_true (by simp)) ?_
    refine RT.ev rfl rfl (Ev.move rfl) ?_
    refine RT.yes rfl rfl rfl (decide_eq_true (by simp)) ?_
    refine RT.ev rfl rfl (Ev.move rfl) ?_
    refine RT.yes rfl rfl rfl (decide_eq_true (by simp)) ?_
    refine RT.ev rfl rfl (Ev.gtrN (b := 0) rfl rfl) ?_
    refine RT.yes rfl rfl rfl (decide_eq_true (by simp)) ?_
    refine RT.ev rfl rfl (Ev.eqlB Try.underlying4 rfl rfl) ?_
    refine RT.ev rfl rfl (Ev.pickY rfl (decide_eq_true (by simp)) rfl) ?_
    refine RT.ev rfl rfl (Ev.move rfl) ?_
    refine RT.yes rfl rfl rfl (decide_eq_true (decide_eq_true (show 0 < n from h1)).symm) ?_
    refine RT.ev rfl rfl (Ev.move rfl) ?_
    refine RT.yes rfl rfl rfl (decide_eq_true (decide_eq_true (show 0 < n from h1)).symm) ?_
    refine RT.ev rfl rfl (Ev.eqlN (b := 0) rfl rfl) ?_
    refine RT.yes rfl rfl rfl (decide_eq_true (decide_eq_true (show 0 < n from h1)).symm) ?_
    refine RT.ev rfl rfl (Ev.move rfl) ?_
    refine RT.yes rfl rfl rfl (decide_eq_false (by omega)) ?_
    refine RT.ev rfl rfl (Ev.move rfl) ?_
    refine RT.yes rfl rfl rfl (decide_eq_false (by omega)) ?_
    refine RT.ev rfl rfl (Ev.move rfl) ?_
    refine RT.yes rfl rfl rfl (decide_eq_false (by omega)) ?_
    refine RT.ev rfl rfl (Ev.eqlN rfl rfl) ?_
    refine RT.yes rfl rfl rfl (decide_eq_true (decide_eq_true (show 0 < n from h1)).symm) ?_
    refine RT.ev rfl rfl (Ev.pickN rfl (decide_eq_false (by omega)) rfl) ?_
    refine RT.ev rfl rfl (Ev.pickY rfl (decide_eq_true (decide_eq_true (show 0 < n from h1)).symm) rfl) ?_
    refine RT.ev rfl rfl (Ev.move rfl) ?_
    refine RT.yes rfl rfl rfl (decide_eq_true (set_get_eq hax_1 (by omega))) ?_
    refine RT.eff rfl rfl (OpE.call ent22 rfl ((awake_ok _).mono fun r_4 w_7 h_4 => ?_))
    obtain ⟨rfl, hp_4⟩ := h_4
    have hs_7 : Sat w [cL v_1 3 (encN .i64) ((List.replicate (n) 0).set (n - 1) x), cObj g_1 79 [(Value.int .i64 (((((List.replicate n 0).set (n - 1) x)).length : Nat) : Int)), (Value.int .i64 (((kindN ((List.replicate n 0).set (n - 1) x)) : Nat) : Int)), lv_1, bv_1, (Value.int .i64 ((last_1 : Nat) : Int)), kv_1], cL lv_1 3 (encN .i64) (lensK ((List.replicate n 0).set (n - 1) x)), cL bv_1 124 (encPt) (ps_1), cParts (ps_1), cL kv_1 3 (encN .i64) (blk_1)] _ := hs_6.adds hp_4
    refine RT.ev rfl rfl (Ev.pickY rfl (decide_eq_true (set_get_eq hax_1 (by omega))) rfl) ?_
    refine RT.ev rfl rfl (Ev.assign rfl) ?_
    refine RT.nil ?_
    refine CW.ret ?_
    show PostK _ _ _ _ _ _
    refine post1 rfl rfl ?_
    have hs_8 : Sat w [] w_7 := hs_7.sub ((.cons _ (.cons _ (.cons _ (.cons _ (.cons _ (.cons _ .slnil)))))))
    exact ⟨rfl, hs_8⟩

theorem tokensLimits_ok (n x : Int) (w : World) : CallsV Try.prog 5 [.int .i64 n, .int .i64 x] w fun r w' => r = .bool true ∧ Sat w [] w' := by
  by_cases h0 : n < 0 ∨ 4097 < n
  · exact tl_out n x w h0
  · by_cases h1 : n = 4097
    · subst h1; exact tl_limit x w
    · by_cases h2 : n = 0
      · subst h2; exact tl_zero x w
      · have e : ((n.toNat : Nat) : Int) = n := Int.toNat_of_nonneg (by omega)
        by_cases hx : x < 0 ∨ 1024 ≤ x
        · have := tl_range n.toNat x w (by omega) (by omega) hx
          rw [e] at this; exact this
        · have := tl_ok n.toNat x.toNat w (by omega) (by omega) (by omega)
          rw [e, Int.toNat_of_nonneg (by omega)] at this; exact this

end Go.Proofs.Ytfhbflhnelbkfaa
