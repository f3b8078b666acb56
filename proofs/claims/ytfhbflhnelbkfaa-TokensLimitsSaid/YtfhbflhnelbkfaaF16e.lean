/- The walks of the functions of F16e, printed by our own program (kwgen.py) out of our descriptions (base.py). -/
import Derived.Test.YtfhbflhnelbkfaaF16r
import Derived.Test.YtfhbflhnelbkfaaKq
import Derived.Test.YtfhbflhnelbkfaaTab
namespace Go.Proofs.Ytfhbflhnelbkfaa
open Go.RowKit Go.Kw
set_option maxRecDepth 100000
set_option linter.unusedVariables false
set_option linter.unusedSimpArgs false
theorem ts_long (v : Value) (z : List Int) (w : World) (hv : RdL w v (encI .i64) z) (a e : Int) (hz : 400 < z.length) :
    CallsV Try.prog 6 [v, (Value.int .i64 (a)), (Value.int .i64 (e))] w fun r w' => r = .bool true ∧ Sat w [] w' := by
  have hs0 := Sat.start w
  refine callsV_of Try.func6 rfl rfl ?_
  refine CW.seq ?_
  refine CW.region ?_
  refine RT.ev rfl rfl (Ev.assign rfl) ?_
  refine RT.nil ?_
  refine CW.seq ?_
  refine CW.seq ?_
  refine CW.region ?_
  refine RT.ev rfl rfl (Ev.move rfl) ?_
  refine RT.ev rfl rfl (Ev.lenL Try.underlying22 rfl (hv.ext hs0.ext)) ?_
  refine RT.ev rfl rfl (Ev.gtrN (b := 400) rfl rfl) ?_
  refine RT.nil ?_
  refine CW.condT rfl (decide_eq_true hz) ?_
  refine CW.seq ?_
  refine CW.region ?_
  refine RT.ev rfl rfl (Ev.assign rfl) ?_
  refine RT.nil ?_
  refine CW.ret ?_
  show PostK _ _ _ _ _ _
  refine post1 rfl rfl ?_
  have hs_1 : Sat w [] w := hs0.sub (.slnil)
  exact ⟨rfl, hs_1⟩

theorem ts_range (v : Value) (z : List Int) (w : World) (hv : RdL w v (encI .i64) z) (a e : Int) (hz : z.length ≤ 400) (hbad : ∃ x ∈ z, x < 0 ∨ 1024 ≤ x)  :
    CallsV Try.prog 6 [v, (Value.int .i64 (a)), (Value.int .i64 (e))] w fun r w' => r = .bool true ∧ Sat w [] w' := by
  have hs0 := Sat.start w
  refine callsV_of Try.func6 rfl rfl ?_
  refine CW.seq ?_
  refine CW.region ?_
  refine RT.ev rfl rfl (Ev.assign rfl) ?_
  refine RT.nil ?_
  refine CW.seq ?_
  refine CW.seq ?_
  refine CW.region ?_
  refine RT.ev rfl rfl (Ev.move rfl) ?_
  refine RT.ev rfl rfl (Ev.lenL Try.underlying22 rfl (hv.ext hs0.ext)) ?_
  refine RT.ev rfl rfl (Ev.gtrN (b := 400) rfl rfl) ?_
  refine RT.nil ?_
  refine CW.condF rfl (decide_eq_false (by omega)) ?_
  refine CW.skip ?_
  refine CW.seq ?_
  refine CW.region ?_
  refine RT.ev rfl rfl (Ev.move rfl) ?_
  refine RT.eff rfl rfl (OpE.call ent20 rfl ((built_range _ (z) _ (hv.ext hs0.ext) (by omega) (hbad)).mono fun r_1 w_1 h_1 => ?_))
  obtain ⟨rfl, hp_1⟩ := h_1
  have hs_1 : Sat w [] _ := hs0.adds hp_1
  refine RT.ev rfl rfl (Ev.move rfl) ?_
  refine RT.ev rfl rfl (Ev.extract rfl rfl) ?_
  refine RT.ev rfl rfl (Ev.extract rfl rfl) ?_
  refine RT.ev rfl rfl (Ev.assign rfl) ?_
  refine RT.ev rfl rfl (Ev.assign rfl) ?_
  refine RT.nil ?_
  refine CW.seq ?_
  refine CW.seq ?_
  refine CW.region ?_
  refine RT.ev rfl rfl (Ev.move rfl) ?_
  refine RT.ev rfl rfl (Ev.notB rfl) ?_
  refine RT.ev rfl rfl (Ev.move rfl) ?_
  refine RT.yes rfl rfl rfl (rfl) ?_
  refine RT.ev rfl rfl (Ev.move rfl) ?_
  refine RT.yes rfl rfl rfl (rfl) ?_
  refine RT.ev rfl rfl (Ev.eqlPt Try.underlying23 rfl rfl) ?_
  refine RT.ev rfl rfl (Ev.pickN rfl (rfl) rfl) ?_
  refine RT.nil ?_
  refine CW.condT rfl (rfl) ?_
  refine CW.seq ?_
  refine CW.region ?_
  refine RT.ev rfl rfl (Ev.move rfl) ?_
  refine RT.ev rfl rfl (Ev.move rfl) ?_
  refine RT.yes rfl rfl rfl (rfl) ?_
  refine RT.eff rfl rfl (OpE.call ent22 rfl ((awake_ok _).mono fun r_2 w_2 h_2 => ?_))
  obtain ⟨rfl, hp_2⟩ := h_2
  have hs_2 : Sat w [] _ := hs_1.adds hp_2
  refine RT.ev rfl rfl (Ev.pickY rfl (rfl) rfl) ?_
  refine RT.ev rfl rfl (Ev.assign rfl) ?_
  refine RT.nil ?_
  refine CW.ret ?_
  show PostK _ _ _ _ _ _
  refine post1 rfl rfl ?_
  have hs_3 : Sat w [] w_2 := hs_2.sub (.slnil)
  exact ⟨rfl, hs_3⟩

theorem ts_no (v : Value) (l : List Nat) (w : World) (hv : RdL w v (encN .i64) l) (hl : OkN l) (a e : Int) (hz : l.length ≤ 400) (hno : ((a < (0 : Int)) ∨ (e < a)) ∨ (((l.length : Nat) : Int) < e)) :
    CallsV Try.prog 6 [v, (Value.int .i64 (a)), (Value.int .i64 (e))] w fun r w' => r = .bool true ∧ Sat w [] w' := by
  have hs0 := Sat.start w
  refine callsV_of Try.func6 rfl rfl ?_
  refine CW.seq ?_
  refine CW.region ?_
  refine RT.ev rfl rfl (Ev.assign rfl) ?_
  refine RT.nil ?_
  refine CW.seq ?_
  refine CW.seq ?_
  refine CW.region ?_
  refine RT.ev rfl rfl (Ev.move rfl) ?_
  refine RT.ev rfl rfl (Ev.lenL Try.underlying22 rfl (hv.ext hs0.ext)) ?_
  refine RT.ev rfl rfl (Ev.gtrN (b := 400) rfl rfl) ?_
  refine RT.nil ?_
  refine CW.condF rfl (decide_eq_false (by omega)) ?_
  refine CW.skip ?_
  refine CW.seq ?_
  refine CW.region ?_
  refine RT.ev rfl rfl (Ev.move rfl) ?_
  refine RT.eff rfl rfl (OpE.call ent20 rfl ((built_ok _ (l) _ (hv.ext hs0.ext) (hl)).mono fun r_1 w_1 h_1 => ?_))
  obtain ⟨g_1, lv_1, bv_1, ps_1, rfl, hps_1, hp_1⟩ := h_1
  have hs_1 : Sat w [cObj g_1 79 [(Value.int .i64 (((l).length : Nat) : Int)), (Value.int .i64 (((kindN l) : Nat) : Int)), lv_1, bv_1, (Value.int .i64 ((0 : Nat) : Int)), (Value.slice none 0 0)], cL lv_1 3 (encN .i64) (lensK l), cL bv_1 124 (encPt) (ps_1), cParts (ps_1), cL (Value.slice none 0 0) 3 (encN .i64) ([])] _ := hs0.adds hp_1
  refine RT.ev rfl rfl (Ev.move rfl) ?_
  refine RT.ev rfl rfl (Ev.extract rfl rfl) ?_
  refine RT.ev rfl rfl (Ev.extract rfl rfl) ?_
  refine RT.ev rfl rfl (Ev.assign rfl) ?_
  refine RT.ev rfl rfl (Ev.assign rfl) ?_
  refine RT.nil ?_
  refine CW.seq ?_
  refine CW.seq ?_
  refine CW.region ?_
  refine RT.ev rfl rfl (Ev.move rfl) ?_
  refine RT.ev rfl rfl (Ev.notB rfl) ?_
  refine RT.ev rfl rfl (Ev.move rfl) ?_
  refine RT.yes rfl rfl rfl (rfl) ?_
  refine RT.ev rfl rfl (Ev.move rfl) ?_
  refine RT.yes rfl rfl rfl (rfl) ?_
  refine RT.ev rfl rfl (Ev.eqlPt Try.underlying23 rfl rfl) ?_
  refine RT.ev rfl rfl (Ev.pickN rfl (rfl) rfl) ?_
  refine RT.nil ?_
  refine CW.condF rfl (rfl) ?_
  refine CW.skip ?_
  refine CW.seq ?_
  refine CW.region ?_
  refine RT.ev rfl rfl (Ev.move rfl) ?_
  refine RT.ev rfl rfl (Ev.move rfl) ?_
  refine RT.ev rfl rfl (Ev.move rfl) ?_
  refine RT.eff rfl rfl (OpE.call ent25 rfl ((sslice_no _ ((l).length) (a) (e) _ (hs_1.cell (i := 0) (j := 0) rfl rfl) (hno)).mono fun r_2 w_2 h_2 => ?_))
  obtain ⟨rfl, hp_2⟩ := h_2
  have hs_2 : Sat w [cObj g_1 79 [(Value.int .i64 (((l).length : Nat) : Int)), (Value.int .i64 (((kindN l) : Nat) : Int)), lv_1, bv_1, (Value.int .i64 ((0 : Nat) : Int)), (Value.slice none 0 0)], cL lv_1 3 (encN .i64) (lensK l), cL bv_1 124 (encPt) (ps_1), cParts (ps_1), cL (Value.slice none 0 0) 3 (encN .i64) ([])] _ := hs_1.adds hp_2
  refine RT.ev rfl rfl (Ev.move rfl) ?_
  refine RT.ev rfl rfl (Ev.extract rfl rfl) ?_
  refine RT.ev rfl rfl (Ev.extract rfl rfl) ?_
  refine RT.ev rfl rfl (Ev.assign rfl) ?_
  refine RT.ev rfl rfl (Ev.assign rfl) ?_
  refine RT.nil ?_
  refine CW.seq ?_
  refine CW.seq ?_
  refine CW.mid (fun L' w' => Weak [(0, v), (1, (Value.int .i64 (a))), (2, (Value.int .i64 (e))), (6, (Value.bool false)), (7, (Value.pointer (some ⟨g_1, 0, none⟩))), (8, (Value.bool true)), (9, (Value.slice none 0 0)), (10, (Value.bool false)), (13, (Value.bool (decide (400 < l.length)))), (24, (Value.bool false)), (48, (Value.bool (decide ((((a : Int) < (0 : Int)) ∨ ((e : Int) < (a : Int))) ∨ (((l.length : Nat) : Int) < (e : Int))))))] L' ∧ Sat w [cObj g_1 79 [(Value.int .i64 (((l).length : Nat) : Int)), (Value.int .i64 (((kindN l) : Nat) : Int)), lv_1, bv_1, (Value.int .i64 ((0 : Nat) : Int)), (Value.slice none 0 0)], cL lv_1 3 (encN .i64) (lensK l), cL bv_1 124 (encPt) (ps_1), cParts (ps_1), cL (Value.slice none 0 0) 3 (encN .i64) ([])] w') ?_ ?_
  · refine CW.region ?_
    refine RT.ev rfl rfl (Ev.move rfl) ?_
    refine RT.ev rfl rfl (Ev.lss rfl rfl) ?_
    refine RT.ev rfl rfl (Ev.move rfl) ?_
    by_cases hg_1 : (a : Int) < (0 : Int)
    · refine RT.no rfl rfl rfl (decide_eq_true hg_1) rfl ?_
      refine RT.no rfl rfl rfl (decide_eq_true hg_1) rfl ?_
      refine RT.no rfl rfl rfl (decide_eq_true hg_1) rfl ?_
      refine RT.ev rfl rfl (Ev.pickY rfl (decide_eq_true hg_1) rfl) ?_
      refine RT.ev rfl rfl (Ev.move rfl) ?_
      refine RT.no rfl rfl rfl (rfl) rfl ?_
      refine RT.no rfl rfl rfl (rfl) rfl ?_
      refine RT.no rfl rfl rfl (rfl) rfl ?_
      refine RT.no rfl rfl rfl (rfl) rfl ?_
      refine RT.ev rfl rfl (Ev.pickY rfl (rfl) rfl) ?_
      refine RT.nil ?_
      exact ⟨⟨rfl, rfl, rfl, rfl, rfl, rfl, rfl, rfl, rfl, rfl, congrArg some (congrArg Value.bool (by simp [hg_1])), trivial⟩, hs_2⟩
    · refine RT.yes rfl rfl rfl (decide_eq_false hg_1) ?_
      refine RT.ev rfl rfl (Ev.move rfl) ?_
      refine RT.yes rfl rfl rfl (decide_eq_false hg_1) ?_
      refine RT.ev rfl rfl (Ev.move rfl) ?_
      refine RT.yes rfl rfl rfl (decide_eq_false hg_1) ?_
      refine RT.ev rfl rfl (Ev.gtr rfl rfl) ?_
      refine RT.ev rfl rfl (Ev.pickN rfl (decide_eq_false hg_1) rfl) ?_
      refine RT.ev rfl rfl (Ev.move rfl) ?_
      by_cases hg_2 : (e : Int) < (a : Int)
      · refine RT.no rfl rfl rfl (decide_eq_true hg_2) rfl ?_
        refine RT.no rfl rfl rfl (decide_eq_true hg_2) rfl ?_
        refine RT.no rfl rfl rfl (decide_eq_true hg_2) rfl ?_
        refine RT.no rfl rfl rfl (decide_eq_true hg_2) rfl ?_
        refine RT.ev rfl rfl (Ev.pickY rfl (decide_eq_true hg_2) rfl) ?_
        refine RT.nil ?_
        exact ⟨⟨rfl, rfl, rfl, rfl, rfl, rfl, rfl, rfl, rfl, rfl, congrArg some (congrArg Value.bool (by simp [hg_1, hg_2])), trivial⟩, hs_2⟩
      · refine RT.yes rfl rfl rfl (decide_eq_false hg_2) ?_
        refine RT.ev rfl rfl (Ev.move rfl) ?_
        refine RT.yes rfl rfl rfl (decide_eq_false hg_2) ?_
        refine RT.ev rfl rfl (Ev.move rfl) ?_
        refine RT.yes rfl rfl rfl (decide_eq_false hg_2) ?_
        refine RT.ev rfl rfl (Ev.lenL Try.underlying22 rfl (hv.ext hs_2.ext)) ?_
        refine RT.yes rfl rfl rfl (decide_eq_false hg_2) ?_
        refine RT.ev rfl rfl (Ev.gtr rfl rfl) ?_
        refine RT.ev rfl rfl (Ev.pickN rfl (decide_eq_false hg_2) rfl) ?_
        refine RT.nil ?_
        exact ⟨⟨rfl, rfl, rfl, rfl, rfl, rfl, rfl, rfl, rfl, rfl, congrArg some (congrArg Value.bool (by simp [hg_1, hg_2])), trivial⟩, hs_2⟩
  · rintro L' w_3 ⟨hw_1, hs_3⟩
    refine CW.weaken _ hw_1 ?_
    refine CW.condT rfl (decide_eq_true hno) ?_
    refine CW.seq ?_
    refine CW.region ?_
    refine RT.ev rfl rfl (Ev.move rfl) ?_
    refine RT.ev rfl rfl (Ev.notB rfl) ?_
    refine RT.ev rfl rfl (Ev.move rfl) ?_
    refine RT.yes rfl rfl rfl (rfl) ?_
    refine RT.ev rfl rfl (Ev.move rfl) ?_
    refine RT.yes rfl rfl rfl (rfl) ?_
    refine RT.ev rfl rfl (Ev.lenL (l := ([] : List Nat)) (E := encN .u8) Try.underlying22 rfl (RdL.nil _ _)) ?_
    refine RT.yes rfl rfl rfl (rfl) ?_
    refine RT.ev rfl rfl (Ev.eqlN (a := 0) (b := 0) rfl rfl) ?_
    refine RT.ev rfl rfl (Ev.pickY rfl (rfl) rfl) ?_
    refine RT.ev rfl rfl (Ev.move rfl) ?_
    refine RT.yes rfl rfl rfl (rfl) ?_
    refine RT.eff rfl rfl (OpE.call ent22 rfl ((awake_ok _).mono fun r_3 w_4 h_3 => ?_))
    obtain ⟨rfl, hp_3⟩ := h_3
    have hs_4 : Sat w [cObj g_1 79 [(Value.int .i64 (((l).length : Nat) : Int)), (Value.int .i64 (((kindN l) : Nat) : Int)), lv_1, bv_1, (Value.int .i64 ((0 : Nat) : Int)), (Value.slice none 0 0)], cL lv_1 3 (encN .i64) (lensK l), cL bv_1 124 (encPt) (ps_1), cParts (ps_1), cL (Value.slice none 0 0) 3 (encN .i64) ([])] _ := hs_3.adds hp_3
    refine RT.ev rfl rfl (Ev.pickY rfl (rfl) rfl) ?_
    refine RT.ev rfl rfl (Ev.assign rfl) ?_
    refine RT.nil ?_
    refine CW.ret ?_
    show PostK _ _ _ _ _ _
    refine post1 rfl rfl ?_
    have hs_5 : Sat w [] w_4 := hs_4.sub ((.cons _ (.cons _ (.cons _ (.cons _ (.cons _ .slnil))))))
    exact ⟨rfl, hs_5⟩

theorem ts_ok (v : Value) (l : List Nat) (w : World) (hv : RdL w v (encN .i64) l) (hl : OkN l) (a e : Nat) (hz : l.length ≤ 400) (hae : a ≤ e) (hel : e ≤ l.length) :
    CallsV Try.prog 6 [v, (Value.int .i64 ((a : Nat) : Int)), (Value.int .i64 ((e : Nat) : Int))] w fun r w' => r = .bool true ∧ Sat w [] w' := by
  have hs0 := Sat.start w
  refine callsV_of Try.func6 rfl rfl ?_
  refine CW.seq ?_
  refine CW.region ?_
  refine RT.ev rfl rfl (Ev.assign rfl) ?_
  refine RT.nil ?_
  refine CW.seq ?_
  refine CW.seq ?_
  refine CW.region ?_
  refine RT.ev rfl rfl (Ev.move rfl) ?_
  refine RT.ev rfl rfl (Ev.lenL Try.underlying22 rfl (hv.ext hs0.ext)) ?_
  refine RT.ev rfl rfl (Ev.gtrN (b := 400) rfl rfl) ?_
  refine RT.nil ?_
  refine CW.condF rfl (decide_eq_false (by omega)) ?_
  refine CW.skip ?_
  refine CW.seq ?_
  refine CW.region ?_
  refine RT.ev rfl rfl (Ev.move rfl) ?_
  refine RT.eff rfl rfl (OpE.call ent20 rfl ((built_ok _ (l) _ (hv.ext hs0.ext) (hl)).mono fun r_1 w_1 h_1 => ?_))
  obtain ⟨g_1, lv_1, bv_1, ps_1, rfl, hps_1, hp_1⟩ := h_1
  have hs_1 : Sat w [cObj g_1 79 [(Value.int .i64 (((l).length : Nat) : Int)), (Value.int .i64 (((kindN l) : Nat) : Int)), lv_1, bv_1, (Value.int .i64 ((0 : Nat) : Int)), (Value.slice none 0 0)], cL lv_1 3 (encN .i64) (lensK l), cL bv_1 124 (encPt) (ps_1), cParts (ps_1), cL (Value.slice none 0 0) 3 (encN .i64) ([])] _ := hs0.adds hp_1
  refine RT.ev rfl rfl (Ev.move rfl) ?_
  refine RT.ev rfl rfl (Ev.extract rfl rfl) ?_
  refine RT.ev rfl rfl (Ev.extract rfl rfl) ?_
  refine RT.ev rfl rfl (Ev.assign rfl) ?_
  refine RT.ev rfl rfl (Ev.assign rfl) ?_
  refine RT.nil ?_
  refine CW.seq ?_
  refine CW.seq ?_
  refine CW.region ?_
  refine RT.ev rfl rfl (Ev.move rfl) ?_
  refine RT.ev rfl rfl (Ev.notB rfl) ?_
  refine RT.ev rfl rfl (Ev.move rfl) ?_
  refine RT.yes rfl rfl rfl (rfl) ?_
  refine RT.ev rfl rfl (Ev.move rfl) ?_
  refine RT.yes rfl rfl rfl (rfl) ?_
  refine RT.ev rfl rfl (Ev.eqlPt Try.underlying23 rfl rfl) ?_
  refine RT.ev rfl rfl (Ev.pickN rfl (rfl) rfl) ?_
  refine RT.nil ?_
  refine CW.condF rfl (rfl) ?_
  refine CW.skip ?_
  refine CW.seq ?_
  refine CW.region ?_
  refine RT.ev rfl rfl (Ev.move rfl) ?_
  refine RT.ev rfl rfl (Ev.move rfl) ?_
  refine RT.ev rfl rfl (Ev.move rfl) ?_
  have hA_1 : Sat w ([cObj g_1 79 [(Value.int .i64 (((l).length : Nat) : Int)), (Value.int .i64 (((kindN l) : Nat) : Int)), lv_1, bv_1, (Value.int .i64 ((0 : Nat) : Int)), (Value.slice none 0 0)], cL lv_1 3 (encN .i64) (lensK l), cL bv_1 124 (encPt) (ps_1), cParts (ps_1), cL (Value.slice none 0 0) 3 (encN .i64) ([])] ++ ([] ++ [])) _ := (Sat.order [0, 1, 2, 3, 4] (by decide) hs_1.tail).cut 5
  refine RT.eff rfl rfl (OpE.call ent25 rfl ((sslice_ok _ _ _ _ _ _ _ (l) ([]) (ps_1) (0) hA_1 (hl) (hps_1) (CacheOk.zero l) (a) (e) (hae) (hel)).mono fun r_2 w_2 h_2 => ?_))
  obtain ⟨slv_1, last_1, kv_1, blk_1, rfl, hca_1, hp_2⟩ := h_2
  have hs_2 : Sat w [cObj g_1 79 [(Value.int .i64 ((l.length : Nat) : Int)), (Value.int .i64 (((kindN l) : Nat) : Int)), lv_1, bv_1, (Value.int .i64 ((last_1 : Nat) : Int)), kv_1], cL lv_1 3 (encN .i64) (lensK l), cL bv_1 124 (encPt) (ps_1), cParts (ps_1), cL kv_1 3 (encN .i64) (blk_1), cL slv_1 3 (encN .i64) (((l).take e).drop a)] _ := (Sat.order [0, 1, 2, 3, 4, 5] (by decide) hp_2.join).untail
  refine RT.ev rfl rfl (Ev.move rfl) ?_
  refine RT.ev rfl rfl (Ev.extract rfl rfl) ?_
  refine RT.ev rfl rfl (Ev.extract rfl rfl) ?_
  refine RT.ev rfl rfl (Ev.assign rfl) ?_
  refine RT.ev rfl rfl (Ev.assign rfl) ?_
  refine RT.nil ?_
  refine CW.seq ?_
  refine CW.seq ?_
  refine CW.mid (fun L' w' => Weak [(0, v), (1, (Value.int .i64 ((a : Nat) : Int))), (2, (Value.int .i64 ((e : Nat) : Int))), (6, (Value.bool false)), (7, (Value.pointer (some ⟨g_1, 0, none⟩))), (8, (Value.bool true)), (9, slv_1), (10, (Value.bool true)), (13, (Value.bool (decide (400 < l.length)))), (24, (Value.bool false)), (48, (Value.bool (decide (((a < 0) ∨ (e < a)) ∨ (l.length < e)))))] L' ∧ Sat w [cObj g_1 79 [(Value.int .i64 ((l.length : Nat) : Int)), (Value.int .i64 (((kindN l) : Nat) : Int)), lv_1, bv_1, (Value.int .i64 ((last_1 : Nat) : Int)), kv_1], cL lv_1 3 (encN .i64) (lensK l), cL bv_1 124 (encPt) (ps_1), cParts (ps_1), cL kv_1 3 (encN .i64) (blk_1), cL slv_1 3 (encN .i64) (((l).take e).drop a)] w') ?_ ?_
  · refine CW.region ?_
    refine RT.ev rfl rfl (Ev.move rfl) ?_
    refine RT.ev rfl rfl (Ev.lssN (b := 0) rfl rfl) ?_
    refine RT.ev rfl rfl (Ev.move rfl) ?_
    by_cases hg_1 : a < 0
    · refine RT.no rfl rfl rfl (decide_eq_true hg_1) rfl ?_
      refine RT.no rfl rfl rfl (decide_eq_true hg_1) rfl ?_
      refine RT.no rfl rfl rfl (decide_eq_true hg_1) rfl ?_
      refine RT.ev rfl rfl (Ev.pickY rfl (decide_eq_true hg_1) rfl) ?_
      refine RT.ev rfl rfl (Ev.move rfl) ?_
      refine RT.no rfl rfl rfl (rfl) rfl ?_
      refine RT.no rfl rfl rfl (rfl) rfl ?_
      refine RT.no rfl rfl rfl (rfl) rfl ?_
      refine RT.no rfl rfl rfl (rfl) rfl ?_
      refine RT.ev rfl rfl (Ev.pickY rfl (rfl) rfl) ?_
      refine RT.nil ?_
      exact ⟨⟨rfl, rfl, rfl, rfl, rfl, rfl, rfl, rfl, rfl, rfl, congrArg some (congrArg Value.bool (by simp [hg_1])), trivial⟩, hs_2⟩
    · refine RT.yes rfl rfl rfl (decide_eq_false hg_1) ?_
      refine RT.ev rfl rfl (Ev.move rfl) ?_
      refine RT.yes rfl rfl rfl (decide_eq_false hg_1) ?_
      refine RT.ev rfl rfl (Ev.move rfl) ?_
      refine RT.yes rfl rfl rfl (decide_eq_false hg_1) ?_
      refine RT.ev rfl rfl (Ev.gtrN rfl rfl) ?_
      refine RT.ev rfl rfl (Ev.pickN rfl (decide_eq_false hg_1) rfl) ?_
      refine RT.ev rfl rfl (Ev.move rfl) ?_
      by_cases hg_2 : e < a
      · refine RT.no rfl rfl rfl (decide_eq_true hg_2) rfl ?_
        refine RT.no rfl rfl rfl (decide_eq_true hg_2) rfl ?_
        refine RT.no rfl rfl rfl (decide_eq_true hg_2) rfl ?_
        refine RT.no rfl rfl rfl (decide_eq_true hg_2) rfl ?_
        refine RT.ev rfl rfl (Ev.pickY rfl (decide_eq_true hg_2) rfl) ?_
        refine RT.nil ?_
        exact ⟨⟨rfl, rfl, rfl, rfl, rfl, rfl, rfl, rfl, rfl, rfl, congrArg some (congrArg Value.bool (by simp [hg_1, hg_2])), trivial⟩, hs_2⟩
      · refine RT.yes rfl rfl rfl (decide_eq_false hg_2) ?_
        refine RT.ev rfl rfl (Ev.move rfl) ?_
        refine RT.yes rfl rfl rfl (decide_eq_false hg_2) ?_
        refine RT.ev rfl rfl (Ev.move rfl) ?_
        refine RT.yes rfl rfl rfl (decide_eq_false hg_2) ?_
        refine RT.ev rfl rfl (Ev.lenL Try.underlying22 rfl (hv.ext hs_2.ext)) ?_
        refine RT.yes rfl rfl rfl (decide_eq_false hg_2) ?_
        refine RT.ev rfl rfl (Ev.gtrN rfl rfl) ?_
        refine RT.ev rfl rfl (Ev.pickN rfl (decide_eq_false hg_2) rfl) ?_
        refine RT.nil ?_
        exact ⟨⟨rfl, rfl, rfl, rfl, rfl, rfl, rfl, rfl, rfl, rfl, congrArg some (congrArg Value.bool (by simp [hg_1, hg_2])), trivial⟩, hs_2⟩
  · rintro L' w_3 ⟨hw_1, hs_3⟩
    refine CW.weaken _ hw_1 ?_
    refine CW.condF rfl (decide_eq_false (by omega)) ?_
    refine CW.skip ?_
    refine CW.seq ?_
    refine CW.region ?_
    refine RT.ev rfl rfl (Ev.move rfl) ?_
    refine RT.ev rfl rfl (Ev.move rfl) ?_
    refine RT.yes rfl rfl rfl (rfl) ?_
    refine RT.ev rfl rfl (Ev.move rfl) ?_
    refine RT.yes rfl rfl rfl (rfl) ?_
    refine RT.ev rfl rfl (Ev.move rfl) ?_
    refine RT.yes rfl rfl rfl (rfl) ?_
    refine RT.ev rfl rfl (Ev.move rfl) ?_
    refine RT.yes rfl rfl rfl (rfl) ?_
    refine RT.ev rfl rfl (Ev.move rfl) ?_
    refine RT.yes rfl rfl rfl (rfl) ?_
    refine RT.ev rfl rfl (Ev.sliceL (E := encN .i64) (a := a) (c := e) sl22 rfl (hv.ext hs_3.ext) ⟨_, rfl⟩ ⟨_, rfl⟩ (hae) (hel)) ?_
    refine RT.yes rfl rfl rfl (rfl) ?_
    refine RT.eff rfl rfl (OpE.call ent26 rfl ((same_ok _ _ (((l).take e).drop a) (((l).take e).drop a) _ (hs_3.rdL 5 rfl) (((hv.ext hs_3.ext)).sub (a := a) (b := e) (hae) (hel)) (by simp; omega)).mono fun r_3 w_4 h_3 => ?_))
    obtain ⟨rfl, hp_3⟩ := h_3
    have hs_4 : Sat w [cObj g_1 79 [(Value.int .i64 ((l.length : Nat) : Int)), (Value.int .i64 (((kindN l) : Nat) : Int)), lv_1, bv_1, (Value.int .i64 ((last_1 : Nat) : Int)), kv_1], cL lv_1 3 (encN .i64) (lensK l), cL bv_1 124 (encPt) (ps_1), cParts (ps_1), cL kv_1 3 (encN .i64) (blk_1), cL slv_1 3 (encN .i64) (((l).take e).drop a)] _ := hs_3.adds hp_3
    refine RT.ev rfl rfl (Ev.pickY rfl (rfl) rfl) ?_
    refine RT.ev rfl rfl (Ev.move rfl) ?_
    refine RT.yes rfl rfl rfl (decide_eq_true rfl) ?_
    refine RT.eff rfl rfl (OpE.call ent22 rfl ((awake_ok _).mono fun r_4 w_5 h_4 => ?_))
    obtain ⟨rfl, hp_4⟩ := h_4
    have hs_5 : Sat w [cObj g_1 79 [(Value.int .i64 ((l.length : Nat) : Int)), (Value.int .i64 (((kindN l) : Nat) : Int)), lv_1, bv_1, (Value.int .i64 ((last_1 : Nat) : Int)), kv_1], cL lv_1 3 (encN .i64) (lensK l), cL bv_1 124 (encPt) (ps_1), cParts (ps_1), cL kv_1 3 (encN .i64) (blk_1), cL slv_1 3 (encN .i64) (((l).take e).drop a)] _ := hs_4.adds hp_4
    refine RT.ev rfl rfl (Ev.pickY rfl (decide_eq_true rfl) rfl) ?_
    refine RT.ev rfl rfl (Ev.assign rfl) ?_
    refine RT.nil ?_
    refine CW.ret ?_
    show PostK _ _ _ _ _ _
    refine post1 rfl rfl ?_
    have hs_6 : Sat w [] w_5 := hs_5.sub ((.cons _ (.cons _ (.cons _ (.cons _ (.cons _ (.cons _ .slnil)))))))
    exact ⟨rfl, hs_6⟩

theorem tokensSlices_ok (v : Value) (z : List Int) (a e : Int) (w : World) (hv : RdL w v (encI .i64) z) : CallsV Try.prog 6 [v, .int .i64 a, .int .i64 e] w fun r w' => r = .bool true ∧ Sat w [] w' := by
  rcases Nat.lt_or_ge 400 z.length with h | h
  · exact ts_long v z w hv a e h
  · by_cases hb : ∃ x ∈ z, x < 0 ∨ 1024 ≤ x
    · exact ts_range v z w hv a e h hb
    · obtain ⟨h0, hok⟩ := nats_ok (by omega) hb
      by_cases hno : ((a < (0 : Int)) ∨ (e < a)) ∨ ((((z.map Int.toNat).length : Nat) : Int) < e)
      · exact ts_no v _ w (hv.nats h0) hok a e (by simpa using h) hno
      · have := ts_ok v _ w (hv.nats h0) hok a.toNat e.toNat (by simpa using h) (by omega) (by omega)
        rw [Int.toNat_of_nonneg (by omega), Int.toNat_of_nonneg (by omega)] at this
        exact this

theorem tr_long (v : Value) (z : List Int) (w : World) (hv : RdL w v (encI .i64) z) (i : Int) (hz : 300 < z.length) :
    CallsV Try.prog 4 [v, (Value.int .i64 (i))] w fun r w' => r = .bool true ∧ Sat w [] w' := by
  have hs0 := Sat.start w
  refine callsV_of Try.func4 rfl rfl ?_
  refine CW.seq ?_
  refine CW.region ?_
  refine RT.ev rfl rfl (Ev.assign rfl) ?_
  refine RT.nil ?_
  refine CW.seq ?_
  refine CW.seq ?_
  refine CW.region ?_
  refine RT.ev rfl rfl (Ev.move rfl) ?_
  refine RT.ev rfl rfl (Ev.lenL Try.underlying22 rfl (hv.ext hs0.ext)) ?_
  refine RT.ev rfl rfl (Ev.gtrN (b := 300) rfl rfl) ?_
  refine RT.nil ?_
  refine CW.condT rfl (decide_eq_true hz) ?_
  refine CW.seq ?_
  refine CW.region ?_
  refine RT.ev rfl rfl (Ev.assign rfl) ?_
  refine RT.nil ?_
  refine CW.ret ?_
  show PostK _ _ _ _ _ _
  refine post1 rfl rfl ?_
  have hs_1 : Sat w [] w := hs0.sub (.slnil)
  exact ⟨rfl, hs_1⟩

theorem tr_range (v : Value) (z : List Int) (w : World) (hv : RdL w v (encI .i64) z) (i : Int) (hz : z.length ≤ 300) (hbad : ∃ x ∈ z, x < 0 ∨ 1024 ≤ x)  :
    CallsV Try.prog 4 [v, (Value.int .i64 (i))] w fun r w' => r = .bool true ∧ Sat w [] w' := by
  have hs0 := Sat.start w
  refine callsV_of Try.func4 rfl rfl ?_
  refine CW.seq ?_
  refine CW.region ?_
  refine RT.ev rfl rfl (Ev.assign rfl) ?_
  refine RT.nil ?_
  refine CW.seq ?_
  refine CW.seq ?_
  refine CW.region ?_
  refine RT.ev rfl rfl (Ev.move rfl) ?_
  refine RT.ev rfl rfl (Ev.lenL Try.underlying22 rfl (hv.ext hs0.ext)) ?_
  refine RT.ev rfl rfl (Ev.gtrN (b := 300) rfl rfl) ?_
  refine RT.nil ?_
  refine CW.condF rfl (decide_eq_false (by omega)) ?_
  refine CW.skip ?_
  refine CW.seq ?_
  refine CW.region ?_
  refine RT.ev rfl rfl (Ev.move rfl) ?_
  refine RT.eff rfl rfl (OpE.call ent20 rfl ((built_range _ (z) _ (hv.ext hs0.ext) (by omega) (hbad)).mono fun r_1 w_1 h_1 => ?_))
  obtain ⟨rfl, hp_1⟩ := h_1
  have hs_1 : Sat w [] _ := hs0.adds hp_1
  refine RT.ev rfl rfl (Ev.move rfl) ?_
  refine RT.ev rfl rfl (Ev.extract rfl rfl) ?_
  refine RT.ev rfl rfl (Ev.extract rfl rfl) ?_
  refine RT.ev rfl rfl (Ev.assign rfl) ?_
  refine RT.ev rfl rfl (Ev.assign rfl) ?_
  refine RT.nil ?_
  refine CW.seq ?_
  refine CW.seq ?_
  refine CW.region ?_
  refine RT.ev rfl rfl (Ev.move rfl) ?_
  refine RT.ev rfl rfl (Ev.notB rfl) ?_
  refine RT.ev rfl rfl (Ev.move rfl) ?_
  refine RT.yes rfl rfl rfl (rfl) ?_
  refine RT.ev rfl rfl (Ev.move rfl) ?_
  refine RT.yes rfl rfl rfl (rfl) ?_
  refine RT.ev rfl rfl (Ev.eqlPt Try.underlying23 rfl rfl) ?_
  refine RT.ev rfl rfl (Ev.pickN rfl (rfl) rfl) ?_
  refine RT.nil ?_
  refine CW.condT rfl (rfl) ?_
  refine CW.seq ?_
  refine CW.region ?_
  refine RT.ev rfl rfl (Ev.move rfl) ?_
  refine RT.ev rfl rfl (Ev.move rfl) ?_
  refine RT.yes rfl rfl rfl (rfl) ?_
  refine RT.eff rfl rfl (OpE.call ent22 rfl ((awake_ok _).mono fun r_2 w_2 h_2 => ?_))
  obtain ⟨rfl, hp_2⟩ := h_2
  have hs_2 : Sat w [] _ := hs_1.adds hp_2
  refine RT.ev rfl rfl (Ev.pickY rfl (rfl) rfl) ?_
  refine RT.ev rfl rfl (Ev.assign rfl) ?_
  refine RT.nil ?_
  refine CW.ret ?_
  show PostK _ _ _ _ _ _
  refine post1 rfl rfl ?_
  have hs_3 : Sat w [] w_2 := hs_2.sub (.slnil)
  exact ⟨rfl, hs_3⟩

set_option maxHeartbeats 1000000 in
theorem tr_in (v : Value) (l : List Nat) (w : World) (hv : RdL w v (encN .i64) l) (hl : OkN l) (i : Nat) (hi : i < l.length) (hz : l.length ≤ 300) :
    CallsV Try.prog 4 [v, (Value.int .i64 ((i : Nat) : Int))] w fun r w' => r = .bool true ∧ Sat w [] w' := by
  have hs0 := Sat.start w
  refine callsV_of Try.func4 rfl rfl ?_
  refine CW.seq ?_
  refine CW.region ?_
  refine RT.ev rfl rfl (Ev.assign rfl) ?_
  refine RT.nil ?_
  refine CW.seq ?_
  refine CW.seq ?_
  refine CW.region ?_
  refine RT.ev rfl rfl (Ev.move rfl) ?_
  refine RT.ev rfl rfl (Ev.lenL Try.underlying22 rfl (hv.ext hs0.ext)) ?_
  refine RT.ev rfl rfl (Ev.gtrN (b := 300) rfl rfl) ?_
  refine RT.nil ?_
  refine CW.condF rfl (decide_eq_false (by omega)) ?_
  refine CW.skip ?_
  refine CW.seq ?_
  refine CW.region ?_
  refine RT.ev rfl rfl (Ev.move rfl) ?_
  refine RT.eff rfl rfl (OpE.call ent20 rfl ((built_ok _ (l) _ (hv.ext hs0.ext) (hl)).mono fun r_1 w_1 h_1 => ?_))
  obtain ⟨g_1, lv_1, bv_1, ps_1, rfl, hps_1, hp_1⟩ := h_1
  have hs_1 : Sat w [cObj g_1 79 [(Value.int .i64 (((l).length : Nat) : Int)), (Value.int .i64 (((kindN l) : Nat) : Int)), lv_1, bv_1, (Value.int .i64 ((0 : Nat) : Int)), (Value.slice none 0 0)], cL lv_1 3 (encN .i64) (lensK l), cL bv_1 124 (encPt) (ps_1), cParts (ps_1), cL (Value.slice none 0 0) 3 (encN .i64) ([])] _ := hs0.adds hp_1
  refine RT.ev rfl rfl (Ev.move rfl) ?_
  refine RT.ev rfl rfl (Ev.extract rfl rfl) ?_
  refine RT.ev rfl rfl (Ev.extract rfl rfl) ?_
  refine RT.ev rfl rfl (Ev.assign rfl) ?_
  refine RT.ev rfl rfl (Ev.assign rfl) ?_
  refine RT.nil ?_
  refine CW.seq ?_
  refine CW.seq ?_
  refine CW.region ?_
  refine RT.ev rfl rfl (Ev.move rfl) ?_
  refine RT.ev rfl rfl (Ev.notB rfl) ?_
  refine RT.ev rfl rfl (Ev.move rfl) ?_
  refine RT.yes rfl rfl rfl (rfl) ?_
  refine RT.ev rfl rfl (Ev.move rfl) ?_
  refine RT.yes rfl rfl rfl (rfl) ?_
  refine RT.ev rfl rfl (Ev.eqlPt Try.underlying23 rfl rfl) ?_
  refine RT.ev rfl rfl (Ev.pickN rfl (rfl) rfl) ?_
  refine RT.nil ?_
  refine CW.condF rfl (rfl) ?_
  refine CW.skip ?_
  refine CW.seq ?_
  refine CW.seq ?_
  refine CW.region ?_
  refine RT.ev rfl rfl (Ev.assign rfl) ?_
  refine RT.nil ?_
  refine CW.block ?_
  refine CW.loop (α := Nat × Nat × Value × List Nat) (fun (kk, last, kv, blk) => [(0, v), (1, (Value.int .i64 ((i : Nat) : Int))), (5, (Value.pointer (some ⟨g_1, 0, none⟩))), (7, (Value.int .i64 ((((kk : Nat) : Int) - 1))))]) (fun (kk, last, kv, blk) w' => Sat w [cObj g_1 79 [(Value.int .i64 ((l.length : Nat) : Int)), (Value.int .i64 (((kindN l) : Nat) : Int)), lv_1, bv_1, (Value.int .i64 ((last : Nat) : Int)), kv], cL lv_1 3 (encN .i64) (lensK l), cL bv_1 124 (encPt) (ps_1), cParts (ps_1), cL kv 3 (encN .i64) (blk)] w' ∧ (kk ≤ l.length + 2) ∧ (CacheOk l last blk)) (fun (kk, last, kv, blk) => l.length + 2 - kk) (0, 0, (Value.slice none 0 0), []) ⟨rfl, rfl, rfl, rfl, trivial⟩ ⟨hs_1, by omega, CacheOk.zero l⟩ ?_
  rintro ⟨kk, last, kv, blk⟩ w_2 ⟨hs_2, hkk, hca⟩
  show CW _ _ _ _ [(0, v), (1, (Value.int .i64 ((i : Nat) : Int))), (5, (Value.pointer (some ⟨g_1, 0, none⟩))), (7, (Value.int .i64 ((((kk : Nat) : Int) - 1))))] _
  refine CW.seq ?_
  refine CW.seq ?_
  refine CW.region ?_
  refine RT.ev rfl rfl (Ev.move rfl) ?_
  refine RT.ev rfl rfl (Ev.move rfl) ?_
  refine RT.ev rfl rfl (Ev.lenL Try.underlying22 rfl (hv.ext hs_2.ext)) ?_
  refine RT.ev rfl rfl (Ev.leq rfl rfl) ?_
  refine RT.nil ?_
  refine CW.condD rfl (fun hc_1 => ?_) (fun hc_1 => ?_)
  · refine CW.skip ?_
    refine CW.seq ?_
    refine CW.block ?_
    refine CW.seq ?_
    rcases (show kk = 0 ∨ (1 ≤ kk ∧ kk ≤ l.length) ∨ kk = l.length + 1 by omega) with hw | hw | hw
    · refine CW.weaken [(0, _), (1, _), (5, _), (7, (Value.int .i64 ((-1)))), (30, _), (31, _), (32, _), (33, _)] ⟨rfl, rfl, rfl, congrArg some (congrArg (Value.int .i64) (by omega)), rfl, rfl, rfl, rfl, trivial⟩ ?_
      refine CW.region ?_
      refine RT.ev rfl rfl (Ev.move rfl) ?_
      refine RT.ev rfl rfl (Ev.move rfl) ?_
      refine RT.eff rfl rfl (OpE.call ent23 rfl ((sat_no _ (l.length) ((-1)) _ (hs_2.cell (i := 0) (j := 0) rfl rfl) (.inl (by omega))).mono fun r_2 w_3 h_2 => ?_))
      obtain ⟨rfl, hp_2⟩ := h_2
      have hs_3 : Sat w [cObj g_1 79 [(Value.int .i64 ((l.length : Nat) : Int)), (Value.int .i64 (((kindN l) : Nat) : Int)), lv_1, bv_1, (Value.int .i64 ((last : Nat) : Int)), kv], cL lv_1 3 (encN .i64) (lensK l), cL bv_1 124 (encPt) (ps_1), cParts (ps_1), cL kv 3 (encN .i64) (blk)] _ := hs_2.adds hp_2
      refine RT.ev rfl rfl (Ev.move rfl) ?_
      refine RT.ev rfl rfl (Ev.extract rfl rfl) ?_
      refine RT.ev rfl rfl (Ev.extract rfl rfl) ?_
      refine RT.ev rfl rfl (Ev.assign rfl) ?_
      refine RT.ev rfl rfl (Ev.assign rfl) ?_
      refine RT.nil ?_
      refine CW.seq ?_
      refine CW.region ?_
      refine RT.ev rfl rfl (Ev.move rfl) ?_
      refine RT.ev rfl rfl (Ev.move rfl) ?_
      refine RT.ev rfl rfl (Ev.geq rfl rfl) ?_
      refine RT.ev rfl rfl (Ev.move rfl) ?_
      refine RT.no rfl rfl rfl (decide_eq_false (by omega)) rfl ?_
      refine RT.no rfl rfl rfl (decide_eq_false (by omega)) rfl ?_
      refine RT.no rfl rfl rfl (decide_eq_false (by omega)) rfl ?_
      refine RT.no rfl rfl rfl (decide_eq_false (by omega)) rfl ?_
      refine RT.ev rfl rfl (Ev.pickN rfl (decide_eq_false (by omega)) rfl) ?_
      refine RT.ev rfl rfl (Ev.neqB Try.underlying4 rfl rfl) ?_
      refine RT.ev rfl rfl (Ev.move rfl) ?_
      refine RT.yes rfl rfl rfl (bool_neq (rfl) (rfl) rfl) ?_
      refine RT.ev rfl rfl (Ev.move rfl) ?_
      refine RT.yes rfl rfl rfl (bool_neq (rfl) (rfl) rfl) ?_
      refine RT.ev rfl rfl (Ev.move rfl) ?_
      refine RT.no rfl rfl rfl (rfl) rfl ?_
      refine RT.no rfl rfl rfl (rfl) rfl ?_
      refine RT.no rfl rfl rfl (rfl) rfl ?_
      refine RT.no rfl rfl rfl (rfl) rfl ?_
      refine RT.no rfl rfl rfl (rfl) rfl ?_
      refine RT.no rfl rfl rfl (rfl) rfl ?_
      refine RT.yes rfl rfl rfl (bool_neq (rfl) (rfl) rfl) ?_
      refine RT.ev rfl rfl (Ev.pickN rfl (rfl) rfl) ?_
      refine RT.ev rfl rfl (Ev.pickN rfl (bool_neq (rfl) (rfl) rfl) rfl) ?_
      refine RT.ev rfl rfl (Ev.move rfl) ?_
      refine RT.yes rfl rfl rfl (rfl) ?_
      refine RT.ev rfl rfl (Ev.move rfl) ?_
      refine RT.yes rfl rfl rfl (rfl) ?_
      refine RT.ev rfl rfl (Ev.notB rfl) ?_
      refine RT.yes rfl rfl rfl (rfl) ?_
      refine RT.ev rfl rfl (Ev.move rfl) ?_
      refine RT.yes rfl rfl rfl (rfl) ?_
      refine RT.ev rfl rfl (Ev.move rfl) ?_
      refine RT.yes rfl rfl rfl (rfl) ?_
      refine RT.ev rfl rfl (Ev.neqN (a := 0) (b := 0) rfl rfl) ?_
      refine RT.yes rfl rfl rfl (rfl) ?_
      refine RT.ev rfl rfl (Ev.pickY rfl (rfl) rfl) ?_
      refine RT.ev rfl rfl (Ev.pickN rfl (rfl) rfl) ?_
      refine RT.nil ?_
      refine CW.condF rfl (rfl) ?_
      refine CW.skip ?_
      refine CW.weaken [(0, _), (1, _), (5, _), (7, _), (8, _), (9, _), (70, _)] ⟨rfl, rfl, rfl, rfl, rfl, rfl, rfl, trivial⟩ ?_
      refine CW.region ?_
      refine RT.ev rfl rfl (Ev.move rfl) ?_
      refine RT.ev rfl rfl (Ev.add (b := (1 : Int)) (a := (-1 : Int)) rfl rfl (by unfold inI64; omega)) ?_
      refine RT.ev rfl rfl (Ev.assign rfl) ?_
      refine RT.nil ?_
      exact ⟨(kk + 1, last, kv, blk), ⟨rfl, rfl, rfl, congrArg some (congrArg (Value.int .i64) (by omega)), trivial⟩, ⟨hs_3, by omega, hca⟩, (show (l.length + 2 - (kk + 1)) < (l.length + 2 - kk) from by omega)⟩
    · obtain ⟨i2, hi2⟩ : ∃ i2, kk = i2 + 1 := ⟨kk - 1, by omega⟩
      refine CW.weaken [(0, _), (1, _), (5, _), (7, (Value.int .i64 ((i2 : Nat) : Int))), (30, _), (31, _), (32, _), (33, _)] ⟨rfl, rfl, rfl, congrArg some (congrArg (Value.int .i64) (by omega)), rfl, rfl, rfl, rfl, trivial⟩ ?_
      refine CW.region ?_
      refine RT.ev rfl rfl (Ev.move rfl) ?_
      refine RT.ev rfl rfl (Ev.move rfl) ?_
      have hA_1 : Sat w ([cObj g_1 79 [(Value.int .i64 ((l.length : Nat) : Int)), (Value.int .i64 (((kindN l) : Nat) : Int)), lv_1, bv_1, (Value.int .i64 ((last : Nat) : Int)), kv], cL lv_1 3 (encN .i64) (lensK l), cL bv_1 124 (encPt) (ps_1), cParts (ps_1), cL kv 3 (encN .i64) (blk)] ++ ([] ++ [])) _ := (Sat.order [0, 1, 2, 3, 4] (by decide) hs_2.tail).cut 5
      refine RT.eff rfl rfl (OpE.call ent23 rfl ((sat_ok _ _ _ _ _ _ _ (l) (blk) (ps_1) (last) hA_1 (hl) (hps_1) (hca) (i2) (by omega)).mono fun r_3 w_4 h_3 => ?_))
      obtain ⟨ax_1, hax_1, rfl, last_1, kv_1, blk_1, hca_1, hp_3⟩ := h_3
      have hs_4 : Sat w [cObj g_1 79 [(Value.int .i64 ((l.length : Nat) : Int)), (Value.int .i64 (((kindN l) : Nat) : Int)), lv_1, bv_1, (Value.int .i64 ((last_1 : Nat) : Int)), kv_1], cL lv_1 3 (encN .i64) (lensK l), cL bv_1 124 (encPt) (ps_1), cParts (ps_1), cL kv_1 3 (encN .i64) (blk_1)] _ := (Sat.order [0, 1, 2, 3, 4] (by decide) hp_3.join).untail
      refine RT.ev rfl rfl (Ev.move rfl) ?_
      refine RT.ev rfl rfl (Ev.extract rfl rfl) ?_
      refine RT.ev rfl rfl (Ev.extract rfl rfl) ?_
      refine RT.ev rfl rfl (Ev.assign rfl) ?_
      refine RT.ev rfl rfl (Ev.assign rfl) ?_
      refine RT.nil ?_
      refine CW.seq ?_
      refine CW.region ?_
      refine RT.ev rfl rfl (Ev.move rfl) ?_
      refine RT.ev rfl rfl (Ev.move rfl) ?_
      refine RT.ev rfl rfl (Ev.geqN (b := 0) rfl rfl) ?_
      refine RT.ev rfl rfl (Ev.move rfl) ?_
      refine RT.yes rfl rfl rfl (decide_eq_true (by omega)) ?_
      refine RT.ev rfl rfl (Ev.move rfl) ?_
      refine RT.yes rfl rfl rfl (decide_eq_true (by omega)) ?_
      refine RT.ev rfl rfl (Ev.move rfl) ?_
      refine RT.yes rfl rfl rfl (decide_eq_true (by omega)) ?_
      refine RT.ev rfl rfl (Ev.lenL Try.underlying22 rfl (hv.ext hs_4.ext)) ?_
      refine RT.yes rfl rfl rfl (decide_eq_true (by omega)) ?_
      refine RT.ev rfl rfl (Ev.lssN rfl rfl) ?_
      refine RT.ev rfl rfl (Ev.pickY rfl (decide_eq_true (by omega)) rfl) ?_
      refine RT.ev rfl rfl (Ev.neqB Try.underlying4 rfl rfl) ?_
      refine RT.ev rfl rfl (Ev.move rfl) ?_
      refine RT.yes rfl rfl rfl (bool_neq (rfl) (decide_eq_true (by omega)) rfl) ?_
      refine RT.ev rfl rfl (Ev.move rfl) ?_
      refine RT.yes rfl rfl rfl (bool_neq (rfl) (decide_eq_true (by omega)) rfl) ?_
      refine RT.ev rfl rfl (Ev.move rfl) ?_
      refine RT.yes rfl rfl rfl (rfl) ?_
      refine RT.ev rfl rfl (Ev.move rfl) ?_
      refine RT.yes rfl rfl rfl (rfl) ?_
      refine RT.ev rfl rfl (Ev.move rfl) ?_
      refine RT.yes rfl rfl rfl (rfl) ?_
      refine RT.ev rfl rfl (Ev.move rfl) ?_
      refine RT.yes rfl rfl rfl (rfl) ?_
      refine RT.ev rfl rfl (Ev.idxL (E := encN .i64) sl22 rfl rfl (hv.ext hs_4.ext) (by omega)) ?_
      refine RT.yes rfl rfl rfl (rfl) ?_
      refine RT.ev rfl rfl (Ev.ldL (E := encN .i64) scal3 rfl (hv.ext hs_4.ext) hax_1 (by decide) rfl) ?_
      refine RT.yes rfl rfl rfl (rfl) ?_
      refine RT.ev rfl rfl (Ev.neqN rfl rfl) ?_
      refine RT.yes rfl rfl rfl (bool_neq (rfl) (decide_eq_true (by omega)) rfl) ?_
      refine RT.ev rfl rfl (Ev.pickY rfl (rfl) rfl) ?_
      refine RT.ev rfl rfl (Ev.pickN rfl (bool_neq (rfl) (decide_eq_true (by omega)) rfl) rfl) ?_
      refine RT.ev rfl rfl (Ev.move rfl) ?_
      refine RT.yes rfl rfl rfl (decide_eq_false (fun h => h rfl)) ?_
      refine RT.ev rfl rfl (Ev.move rfl) ?_
      refine RT.yes rfl rfl rfl (decide_eq_false (fun h => h rfl)) ?_
      refine RT.ev rfl rfl (Ev.notB rfl) ?_
      refine RT.yes rfl rfl rfl (decide_eq_false (fun h => h rfl)) ?_
      refine RT.ev rfl rfl (Ev.move rfl) ?_
      refine RT.no rfl rfl rfl (rfl) rfl ?_
      refine RT.no rfl rfl rfl (rfl) rfl ?_
      refine RT.yes rfl rfl rfl (decide_eq_false (fun h => h rfl)) ?_
      refine RT.ev rfl rfl (Ev.pickN rfl (rfl) rfl) ?_
      refine RT.ev rfl rfl (Ev.pickN rfl (decide_eq_false (fun h => h rfl)) rfl) ?_
      refine RT.nil ?_
      refine CW.condF rfl (rfl) ?_
      refine CW.skip ?_
      refine CW.weaken [(0, _), (1, _), (5, _), (7, _), (8, _), (9, _), (70, _)] ⟨rfl, rfl, rfl, rfl, rfl, rfl, rfl, trivial⟩ ?_
      refine CW.region ?_
      refine RT.ev rfl rfl (Ev.move rfl) ?_
      refine RT.ev rfl rfl (Ev.addI (b := 1) rfl rfl (by omega)) ?_
      refine RT.ev rfl rfl (Ev.assign rfl) ?_
      refine RT.nil ?_
      exact ⟨(kk + 1, last_1, kv_1, blk_1), ⟨rfl, rfl, rfl, congrArg some (congrArg (Value.int .i64) (by omega)), trivial⟩, ⟨hs_4, by omega, hca_1⟩, (show (l.length + 2 - (kk + 1)) < (l.length + 2 - kk) from by omega)⟩
    · refine CW.weaken [(0, _), (1, _), (5, _), (7, (Value.int .i64 ((l.length : Nat) : Int))), (30, _), (31, _), (32, _), (33, _)] ⟨rfl, rfl, rfl, congrArg some (congrArg (Value.int .i64) (by omega)), rfl, rfl, rfl, rfl, trivial⟩ ?_
      refine CW.region ?_
      refine RT.ev rfl rfl (Ev.move rfl) ?_
      refine RT.ev rfl rfl (Ev.move rfl) ?_
      refine RT.eff rfl rfl (OpE.call ent23 rfl ((sat_no _ (l.length) (((l.length : Nat) : Int)) _ (hs_2.cell (i := 0) (j := 0) rfl rfl) (.inr (by omega))).mono fun r_4 w_5 h_4 => ?_))
      obtain ⟨rfl, hp_4⟩ := h_4
      have hs_5 : Sat w [cObj g_1 79 [(Value.int .i64 ((l.length : Nat) : Int)), (Value.int .i64 (((kindN l) : Nat) : Int)), lv_1, bv_1, (Value.int .i64 ((last : Nat) : Int)), kv], cL lv_1 3 (encN .i64) (lensK l), cL bv_1 124 (encPt) (ps_1), cParts (ps_1), cL kv 3 (encN .i64) (blk)] _ := hs_2.adds hp_4
      refine RT.ev rfl rfl (Ev.move rfl) ?_
      refine RT.ev rfl rfl (Ev.extract rfl rfl) ?_
      refine RT.ev rfl rfl (Ev.extract rfl rfl) ?_
      refine RT.ev rfl rfl (Ev.assign rfl) ?_
      refine RT.ev rfl rfl (Ev.assign rfl) ?_
      refine RT.nil ?_
      refine CW.seq ?_
      refine CW.region ?_
      refine RT.ev rfl rfl (Ev.move rfl) ?_
      refine RT.ev rfl rfl (Ev.move rfl) ?_
      refine RT.ev rfl rfl (Ev.geqN (b := 0) rfl rfl) ?_
      refine RT.ev rfl rfl (Ev.move rfl) ?_
      refine RT.yes rfl rfl rfl (decide_eq_true (by omega)) ?_
      refine RT.ev rfl rfl (Ev.move rfl) ?_
      refine RT.yes rfl rfl rfl (decide_eq_true (by omega)) ?_
      refine RT.ev rfl rfl (Ev.move rfl) ?_
      refine RT.yes rfl rfl rfl (decide_eq_true (by omega)) ?_
      refine RT.ev rfl rfl (Ev.lenL Try.underlying22 rfl (hv.ext hs_5.ext)) ?_
      refine RT.yes rfl rfl rfl (decide_eq_true (by omega)) ?_
      refine RT.ev rfl rfl (Ev.lssN rfl rfl) ?_
      refine RT.ev rfl rfl (Ev.pickY rfl (decide_eq_true (by omega)) rfl) ?_
      refine RT.ev rfl rfl (Ev.neqB Try.underlying4 rfl rfl) ?_
      refine RT.ev rfl rfl (Ev.move rfl) ?_
      refine RT.yes rfl rfl rfl (bool_neq (rfl) (decide_eq_false (by omega)) rfl) ?_
      refine RT.ev rfl rfl (Ev.move rfl) ?_
      refine RT.yes rfl rfl rfl (bool_neq (rfl) (decide_eq_false (by omega)) rfl) ?_
      refine RT.ev rfl rfl (Ev.move rfl) ?_
      refine RT.no rfl rfl rfl (rfl) rfl ?_
      refine RT.no rfl rfl rfl (rfl) rfl ?_
      refine RT.no rfl rfl rfl (rfl) rfl ?_
      refine RT.no rfl rfl rfl (rfl) rfl ?_
      refine RT.no rfl rfl rfl (rfl) rfl ?_
      refine RT.no rfl rfl rfl (rfl) rfl ?_
      refine RT.yes rfl rfl rfl (bool_neq (rfl) (decide_eq_false (by omega)) rfl) ?_
      refine RT.ev rfl rfl (Ev.pickN rfl (rfl) rfl) ?_
      refine RT.ev rfl rfl (Ev.pickN rfl (bool_neq (rfl) (decide_eq_false (by omega)) rfl) rfl) ?_
      refine RT.ev rfl rfl (Ev.move rfl) ?_
      refine RT.yes rfl rfl rfl (rfl) ?_
      refine RT.ev rfl rfl (Ev.move rfl) ?_
      refine RT.yes rfl rfl rfl (rfl) ?_
      refine RT.ev rfl rfl (Ev.notB rfl) ?_
      refine RT.yes rfl rfl rfl (rfl) ?_
      refine RT.ev rfl rfl (Ev.move rfl) ?_
      refine RT.yes rfl rfl rfl (rfl) ?_
      refine RT.ev rfl rfl (Ev.move rfl) ?_
      refine RT.yes rfl rfl rfl (rfl) ?_
      refine RT.ev rfl rfl (Ev.neqN (a := 0) (b := 0) rfl rfl) ?_
      refine RT.yes rfl rfl rfl (rfl) ?_
      refine RT.ev rfl rfl (Ev.pickY rfl (rfl) rfl) ?_
      refine RT.ev rfl rfl (Ev.pickN rfl (rfl) rfl) ?_
      refine RT.nil ?_
      refine CW.condF rfl (rfl) ?_
      refine CW.skip ?_
      refine CW.weaken [(0, _), (1, _), (5, _), (7, _), (8, _), (9, _), (70, _)] ⟨rfl, rfl, rfl, rfl, rfl, rfl, rfl, trivial⟩ ?_
      refine CW.region ?_
      refine RT.ev rfl rfl (Ev.move rfl) ?_
      refine RT.ev rfl rfl (Ev.addI (b := 1) rfl rfl (by omega)) ?_
      refine RT.ev rfl rfl (Ev.assign rfl) ?_
      refine RT.nil ?_
      exact ⟨(kk + 1, last, kv, blk), ⟨rfl, rfl, rfl, congrArg some (congrArg (Value.int .i64) (by omega)), trivial⟩, ⟨hs_5, by omega, hca⟩, (show (l.length + 2 - (kk + 1)) < (l.length + 2 - kk) from by omega)⟩
  · refine CW.exit0 ?_
    refine CW.seq ?_
    refine CW.region ?_
    refine RT.ev rfl rfl (Ev.move rfl) ?_
    refine RT.ev rfl rfl (Ev.move rfl) ?_
    have hA_2 : Sat w ([cObj g_1 79 [(Value.int .i64 ((l.length : Nat) : Int)), (Value.int .i64 (((kindN l) : Nat) : Int)), lv_1, bv_1, (Value.int .i64 ((last : Nat) : Int)), kv], cL lv_1 3 (encN .i64) (lensK l), cL bv_1 124 (encPt) (ps_1), cParts (ps_1), cL kv 3 (encN .i64) (blk)] ++ ([] ++ [])) _ := (Sat.order [0, 1, 2, 3, 4] (by decide) hs_2.tail).cut 5
    refine RT.eff rfl rfl (OpE.call ent23 rfl ((sat_ok _ _ _ _ _ _ _ (l) (blk) (ps_1) (last) hA_2 (hl) (hps_1) (hca) (i) (by omega)).mono fun r_5 w_6 h_5 => ?_))
    obtain ⟨ax_2, hax_2, rfl, last_2, kv_2, blk_2, hca_2, hp_5⟩ := h_5
    have hs_6 : Sat w [cObj g_1 79 [(Value.int .i64 ((l.length : Nat) : Int)), (Value.int .i64 (((kindN l) : Nat) : Int)), lv_1, bv_1, (Value.int .i64 ((last_2 : Nat) : Int)), kv_2], cL lv_1 3 (encN .i64) (lensK l), cL bv_1 124 (encPt) (ps_1), cParts (ps_1), cL kv_2 3 (encN .i64) (blk_2)] _ := (Sat.order [0, 1, 2, 3, 4] (by decide) hp_5.join).untail
    refine RT.ev rfl rfl (Ev.move rfl) ?_
    refine RT.ev rfl rfl (Ev.extract rfl rfl) ?_
    refine RT.ev rfl rfl (Ev.extract rfl rfl) ?_
    refine RT.ev rfl rfl (Ev.assign rfl) ?_
    refine RT.ev rfl rfl (Ev.assign rfl) ?_
    refine RT.nil ?_
    refine CW.seq ?_
    refine CW.region ?_
    refine RT.ev rfl rfl (Ev.move rfl) ?_
    refine RT.ev rfl rfl (Ev.move rfl) ?_
    refine RT.ev rfl rfl (Ev.geqN (b := 0) rfl rfl) ?_
    refine RT.ev rfl rfl (Ev.move rfl) ?_
    refine RT.yes rfl rfl rfl (decide_eq_true (by omega)) ?_
    refine RT.ev rfl rfl (Ev.move rfl) ?_
    refine RT.yes rfl rfl rfl (decide_eq_true (by omega)) ?_
    refine RT.ev rfl rfl (Ev.move rfl) ?_
    refine RT.yes rfl rfl rfl (decide_eq_true (by omega)) ?_
    refine RT.ev rfl rfl (Ev.lenL Try.underlying22 rfl (hv.ext hs_6.ext)) ?_
    refine RT.yes rfl rfl rfl (decide_eq_true (by omega)) ?_
    refine RT.ev rfl rfl (Ev.lssN rfl rfl) ?_
    refine RT.ev rfl rfl (Ev.pickY rfl (decide_eq_true (by omega)) rfl) ?_
    refine RT.ev rfl rfl (Ev.eqlB Try.underlying4 rfl rfl) ?_
    refine RT.ev rfl rfl (Ev.move rfl) ?_
    refine RT.yes rfl rfl rfl (bool_eql (rfl) (decide_eq_true (by omega)) rfl) ?_
    refine RT.ev rfl rfl (Ev.move rfl) ?_
    refine RT.yes rfl rfl rfl (bool_eql (rfl) (decide_eq_true (by omega)) rfl) ?_
    refine RT.ev rfl rfl (Ev.notB rfl) ?_
    refine RT.yes rfl rfl rfl (bool_eql (rfl) (decide_eq_true (by omega)) rfl) ?_
    refine RT.ev rfl rfl (Ev.move rfl) ?_
    refine RT.yes rfl rfl rfl (rfl) ?_
    refine RT.ev rfl rfl (Ev.move rfl) ?_
    refine RT.yes rfl rfl rfl (rfl) ?_
    refine RT.ev rfl rfl (Ev.move rfl) ?_
    refine RT.yes rfl rfl rfl (rfl) ?_
    refine RT.ev rfl rfl (Ev.move rfl) ?_
    refine RT.yes rfl rfl rfl (rfl) ?_
    refine RT.ev rfl rfl (Ev.idxL (E := encN .i64) sl22 rfl rfl (hv.ext hs_6.ext) (by omega)) ?_
    refine RT.yes rfl rfl rfl (rfl) ?_
    refine RT.ev rfl rfl (Ev.ldL (E := encN .i64) scal3 rfl (hv.ext hs_6.ext) hax_2 (by decide) rfl) ?_
    refine RT.yes rfl rfl rfl (rfl) ?_
    refine RT.ev rfl rfl (Ev.eqlN rfl rfl) ?_
    refine RT.yes rfl rfl rfl (bool_eql (rfl) (decide_eq_true (by omega)) rfl) ?_
    refine RT.ev rfl rfl (Ev.pickN rfl (rfl) rfl) ?_
    refine RT.ev rfl rfl (Ev.pickY rfl (bool_eql (rfl) (decide_eq_true (by omega)) rfl) rfl) ?_
    refine RT.ev rfl rfl (Ev.move rfl) ?_
    refine RT.yes rfl rfl rfl (decide_eq_true rfl) ?_
    refine RT.eff rfl rfl (OpE.call ent22 rfl ((awake_ok _).mono fun r_6 w_7 h_6 => ?_))
    obtain ⟨rfl, hp_6⟩ := h_6
    have hs_7 : Sat w [cObj g_1 79 [(Value.int .i64 ((l.length : Nat) : Int)), (Value.int .i64 (((kindN l) : Nat) : Int)), lv_1, bv_1, (Value.int .i64 ((last_2 : Nat) : Int)), kv_2], cL lv_1 3 (encN .i64) (lensK l), cL bv_1 124 (encPt) (ps_1), cParts (ps_1), cL kv_2 3 (encN .i64) (blk_2)] _ := hs_6.adds hp_6
    refine RT.ev rfl rfl (Ev.pickY rfl (decide_eq_true rfl) rfl) ?_
    refine RT.ev rfl rfl (Ev.assign rfl) ?_
    refine RT.nil ?_
    refine CW.ret ?_
    show PostK _ _ _ _ _ _
    refine post1 rfl rfl ?_
    have hs_8 : Sat w [] w_7 := hs_7.sub ((.cons _ (.cons _ (.cons _ (.cons _ (.cons _ .slnil))))))
    exact ⟨rfl, hs_8⟩

set_option maxHeartbeats 1000000 in
theorem tr_neg (v : Value) (l : List Nat) (w : World) (hv : RdL w v (encN .i64) l) (hl : OkN l) (i : Int) (hi : i < 0) (hz : l.length ≤ 300) :
    CallsV Try.prog 4 [v, (Value.int .i64 (i))] w fun r w' => r = .bool true ∧ Sat w [] w' := by
  have hs0 := Sat.start w
  refine callsV_of Try.func4 rfl rfl ?_
  refine CW.seq ?_
  refine CW.region ?_
  refine RT.ev rfl rfl (Ev.assign rfl) ?_
  refine RT.nil ?_
  refine CW.seq ?_
  refine CW.seq ?_
  refine CW.region ?_
  refine RT.ev rfl rfl (Ev.move rfl) ?_
  refine RT.ev rfl rfl (Ev.lenL Try.underlying22 rfl (hv.ext hs0.ext)) ?_
  refine RT.ev rfl rfl (Ev.gtrN (b := 300) rfl rfl) ?_
  refine RT.nil ?_
  refine CW.condF rfl (decide_eq_false (by omega)) ?_
  refine CW.skip ?_
  refine CW.seq ?_
  refine CW.region ?_
  refine RT.ev rfl rfl (Ev.move rfl) ?_
  refine RT.eff rfl rfl (OpE.call ent20 rfl ((built_ok _ (l) _ (hv.ext hs0.ext) (hl)).mono fun r_1 w_1 h_1 => ?_))
  obtain ⟨g_1, lv_1, bv_1, ps_1, rfl, hps_1, hp_1⟩ := h_1
  have hs_1 : Sat w [cObj g_1 79 [(Value.int .i64 (((l).length : Nat) : Int)), (Value.int .i64 (((kindN l) : Nat) : Int)), lv_1, bv_1, (Value.int .i64 ((0 : Nat) : Int)), (Value.slice none 0 0)], cL lv_1 3 (encN .i64) (lensK l), cL bv_1 124 (encPt) (ps_1), cParts (ps_1), cL (Value.slice none 0 0) 3 (encN .i64) ([])] _ := hs0.adds hp_1
  refine RT.ev rfl rfl (Ev.move rfl) ?_
  refine RT.ev rfl rfl (Ev.extract rfl rfl) ?_
  refine RT.ev rfl rfl (Ev.extract rfl rfl) ?_
  refine RT.ev rfl rfl (Ev.assign rfl) ?_
  refine RT.ev rfl rfl (Ev.assign rfl) ?_
  refine RT.nil ?_
  refine CW.seq ?_
  refine CW.seq ?_
  refine CW.region ?_
  refine RT.ev rfl rfl (Ev.move rfl) ?_
  refine RT.ev rfl rfl (Ev.notB rfl) ?_
  refine RT.ev rfl rfl (Ev.move rfl) ?_
  refine RT.yes rfl rfl rfl (rfl) ?_
  refine RT.ev rfl rfl (Ev.move rfl) ?_
  refine RT.yes rfl rfl rfl (rfl) ?_
  refine RT.ev rfl rfl (Ev.eqlPt Try.underlying23 rfl rfl) ?_
  refine RT.ev rfl rfl (Ev.pickN rfl (rfl) rfl) ?_
  refine RT.nil ?_
  refine CW.condF rfl (rfl) ?_
  refine CW.skip ?_
  refine CW.seq ?_
  refine CW.seq ?_
  refine CW.region ?_
  refine RT.ev rfl rfl (Ev.assign rfl) ?_
  refine RT.nil ?_
  refine CW.block ?_
  refine CW.loop (α := Nat × Nat × Value × List Nat) (fun (kk, last, kv, blk) => [(0, v), (1, (Value.int .i64 (i))), (5, (Value.pointer (some ⟨g_1, 0, none⟩))), (7, (Value.int .i64 ((((kk : Nat) : Int) - 1))))]) (fun (kk, last, kv, blk) w' => Sat w [cObj g_1 79 [(Value.int .i64 ((l.length : Nat) : Int)), (Value.int .i64 (((kindN l) : Nat) : Int)), lv_1, bv_1, (Value.int .i64 ((last : Nat) : Int)), kv], cL lv_1 3 (encN .i64) (lensK l), cL bv_1 124 (encPt) (ps_1), cParts (ps_1), cL kv 3 (encN .i64) (blk)] w' ∧ (kk ≤ l.length + 2) ∧ (CacheOk l last blk)) (fun (kk, last, kv, blk) => l.length + 2 - kk) (0, 0, (Value.slice none 0 0), []) ⟨rfl, rfl, rfl, rfl, trivial⟩ ⟨hs_1, by omega, CacheOk.zero l⟩ ?_
  rintro ⟨kk, last, kv, blk⟩ w_2 ⟨hs_2, hkk, hca⟩
  show CW _ _ _ _ [(0, v), (1, (Value.int .i64 (i))), (5, (Value.pointer (some ⟨g_1, 0, none⟩))), (7, (Value.int .i64 ((((kk : Nat) : Int) - 1))))] _
  refine CW.seq ?_
  refine CW.seq ?_
  refine CW.region ?_
  refine RT.ev rfl rfl (Ev.move rfl) ?_
  refine RT.ev rfl rfl (Ev.move rfl) ?_
  refine RT.ev rfl rfl (Ev.lenL Try.underlying22 rfl (hv.ext hs_2.ext)) ?_
  refine RT.ev rfl rfl (Ev.leq rfl rfl) ?_
  refine RT.nil ?_
  refine CW.condD rfl (fun hc_1 => ?_) (fun hc_1 => ?_)
  · refine CW.skip ?_
    refine CW.seq ?_
    refine CW.block ?_
    refine CW.seq ?_
    rcases (show kk = 0 ∨ (1 ≤ kk ∧ kk ≤ l.length) ∨ kk = l.length + 1 by omega) with hw | hw | hw
    · refine CW.weaken [(0, _), (1, _), (5, _), (7, (Value.int .i64 ((-1)))), (30, _), (31, _), (32, _), (33, _)] ⟨rfl, rfl, rfl, congrArg some (congrArg (Value.int .i64) (by omega)), rfl, rfl, rfl, rfl, trivial⟩ ?_
      refine CW.region ?_
      refine RT.ev rfl rfl (Ev.move rfl) ?_
      refine RT.ev rfl rfl (Ev.move rfl) ?_
      refine RT.eff rfl rfl (OpE.call ent23 rfl ((sat_no _ (l.length) ((-1)) _ (hs_2.cell (i := 0) (j := 0) rfl rfl) (.inl (by omega))).mono fun r_2 w_3 h_2 => ?_))
      obtain ⟨rfl, hp_2⟩ := h_2
      have hs_3 : Sat w [cObj g_1 79 [(Value.int .i64 ((l.length : Nat) : Int)), (Value.int .i64 (((kindN l) : Nat) : Int)), lv_1, bv_1, (Value.int .i64 ((last : Nat) : Int)), kv], cL lv_1 3 (encN .i64) (lensK l), cL bv_1 124 (encPt) (ps_1), cParts (ps_1), cL kv 3 (encN .i64) (blk)] _ := hs_2.adds hp_2
      refine RT.ev rfl rfl (Ev.move rfl) ?_
      refine RT.ev rfl rfl (Ev.extract rfl rfl) ?_
      refine RT.ev rfl rfl (Ev.extract rfl rfl) ?_
      refine RT.ev rfl rfl (Ev.assign rfl) ?_
      refine RT.ev rfl rfl (Ev.assign rfl) ?_
      refine RT.nil ?_
      refine CW.seq ?_
      refine CW.region ?_
      refine RT.ev rfl rfl (Ev.move rfl) ?_
      refine RT.ev rfl rfl (Ev.move rfl) ?_
      refine RT.ev rfl rfl (Ev.geq rfl rfl) ?_
      refine RT.ev rfl rfl (Ev.move rfl) ?_
      refine RT.no rfl rfl rfl (decide_eq_false (by omega)) rfl ?_
      refine RT.no rfl rfl rfl (decide_eq_false (by omega)) rfl ?_
      refine RT.no rfl rfl rfl (decide_eq_false (by omega)) rfl ?_
      refine RT.no rfl rfl rfl (decide_eq_false (by omega)) rfl ?_
      refine RT.ev rfl rfl (Ev.pickN rfl (decide_eq_false (by omega)) rfl) ?_
      refine RT.ev rfl rfl (Ev.neqB Try.underlying4 rfl rfl) ?_
      refine RT.ev rfl rfl (Ev.move rfl) ?_
      refine RT.yes rfl rfl rfl (bool_neq (rfl) (rfl) rfl) ?_
      refine RT.ev rfl rfl (Ev.move rfl) ?_
      refine RT.yes rfl rfl rfl (bool_neq (rfl) (rfl) rfl) ?_
      refine RT.ev rfl rfl (Ev.move rfl) ?_
      refine RT.no rfl rfl rfl (rfl) rfl ?_
      refine RT.no rfl rfl rfl (rfl) rfl ?_
      refine RT.no rfl rfl rfl (rfl) rfl ?_
      refine RT.no rfl rfl rfl (rfl) rfl ?_
      refine RT.no rfl rfl rfl (rfl) rfl ?_
      refine RT.no rfl rfl rfl (rfl) rfl ?_
      refine RT.yes rfl rfl rfl (bool_neq (rfl) (rfl) rfl) ?_
      refine RT.ev rfl rfl (Ev.pickN rfl (rfl) rfl) ?_
      refine RT.ev rfl rfl (Ev.pickN rfl (bool_neq (rfl) (rfl) rfl) rfl) ?_
      refine RT.ev rfl rfl (Ev.move rfl) ?_
      refine RT.yes rfl rfl rfl (rfl) ?_
      refine RT.ev rfl rfl (Ev.move rfl) ?_
      refine RT.yes rfl rfl rfl (rfl) ?_
      refine RT.ev rfl rfl (Ev.notB rfl) ?_
      refine RT.yes rfl rfl rfl (rfl) ?_
      refine RT.ev rfl rfl (Ev.move rfl) ?_
      refine RT.yes rfl rfl rfl (rfl) ?_
      refine RT.ev rfl rfl (Ev.move rfl) ?_
      refine RT.yes rfl rfl rfl (rfl) ?_
      refine RT.ev rfl rfl (Ev.neqN (a := 0) (b := 0) rfl rfl) ?_
      refine RT.yes rfl rfl rfl (rfl) ?_
      refine RT.ev rfl rfl (Ev.pickY rfl (rfl) rfl) ?_
      refine RT.ev rfl rfl (Ev.pickN rfl (rfl) rfl) ?_
      refine RT.nil ?_
      refine CW.condF rfl (rfl) ?_
      refine CW.skip ?_
      refine CW.weaken [(0, _), (1, _), (5, _), (7, _), (8, _), (9, _), (70, _)] ⟨rfl, rfl, rfl, rfl, rfl, rfl, rfl, trivial⟩ ?_
      refine CW.region ?_
      refine RT.ev rfl rfl (Ev.move rfl) ?_
      refine RT.ev rfl rfl (Ev.add (b := (1 : Int)) (a := (-1 : Int)) rfl rfl (by unfold inI64; omega)) ?_
      refine RT.ev rfl rfl (Ev.assign rfl) ?_
      refine RT.nil ?_
      exact ⟨(kk + 1, last, kv, blk), ⟨rfl, rfl, rfl, congrArg some (congrArg (Value.int .i64) (by omega)), trivial⟩, ⟨hs_3, by omega, hca⟩, (show (l.length + 2 - (kk + 1)) < (l.length + 2 - kk) from by omega)⟩
    · obtain ⟨i2, hi2⟩ : ∃ i2, kk = i2 + 1 := ⟨kk - 1, by omega⟩
      refine CW.weaken [(0, _), (1, _), (5, _), (7, (Value.int .i64 ((i2 : Nat) : Int))), (30, _), (31, _), (32, _), (33, _)] ⟨rfl, rfl, rfl, congrArg some (congrArg (Value.int .i64) (by omega)), rfl, rfl, rfl, rfl, trivial⟩ ?_
      refine CW.region ?_
      refine RT.ev rfl rfl (Ev.move rfl) ?_
      refine RT.ev rfl rfl (Ev.move rfl) ?_
      have hA_1 : Sat w ([cObj g_1 79 [(Value.int .i64 ((l.length : Nat) : Int)), (Value.int .i64 (((kindN l) : Nat) : Int)), lv_1, bv_1, (Value.int .i64 ((last : Nat) : Int)), kv], cL lv_1 3 (encN .i64) (lensK l), cL bv_1 124 (encPt) (ps_1), cParts (ps_1), cL kv 3 (encN .i64) (blk)] ++ ([] ++ [])) _ := (Sat.order [0, 1, 2, 3, 4] (by decide) hs_2.tail).cut 5
      refine RT.eff rfl rfl (OpE.call ent23 rfl ((sat_ok _ _ _ _ _ _ _ (l) (blk) (ps_1) (last) hA_1 (hl) (hps_1) (hca) (i2) (by omega)).mono fun r_3 w_4 h_3 => ?_))
      obtain ⟨ax_1, hax_1, rfl, last_1, kv_1, blk_1, hca_1, hp_3⟩ := h_3
      have hs_4 : Sat w [cObj g_1 79 [(Value.int .i64 ((l.length : Nat) : Int)), (Value.int .i64 (((kindN l) : Nat) : Int)), lv_1, bv_1, (Value.int .i64 ((last_1 : Nat) : Int)), kv_1], cL lv_1 3 (encN .i64) (lensK l), cL bv_1 124 (encPt) (ps_1), cParts (ps_1), cL kv_1 3 (encN .i64) (blk_1)] _ := (Sat.order [0, 1, 2, 3, 4] (by decide) hp_3.join).untail
      refine RT.ev rfl rfl (Ev.move rfl) ?_
      refine RT.ev rfl rfl (Ev.extract rfl rfl) ?_
      refine RT.ev rfl rfl (Ev.extract rfl rfl) ?_
      refine RT.ev rfl rfl (Ev.assign rfl) ?_
      refine RT.ev rfl rfl (Ev.assign rfl) ?_
      refine RT.nil ?_
      refine CW.seq ?_
      refine CW.region ?_
      refine RT.ev rfl rfl (Ev.move rfl) ?_
      refine RT.ev rfl rfl (Ev.move rfl) ?_
      refine RT.ev rfl rfl (Ev.geqN (b := 0) rfl rfl) ?_
      refine RT.ev rfl rfl (Ev.move rfl) ?_
      refine RT.yes rfl rfl rfl (decide_eq_true (by omega)) ?_
      refine RT.ev rfl rfl (Ev.move rfl) ?_
      refine RT.yes rfl rfl rfl (decide_eq_true (by omega)) ?_
      refine RT.ev rfl rfl (Ev.move rfl) ?_
      refine RT.yes rfl rfl rfl (decide_eq_true (by omega)) ?_
      refine RT.ev rfl rfl (Ev.lenL Try.underlying22 rfl (hv.ext hs_4.ext)) ?_
      refine RT.yes rfl rfl rfl (decide_eq_true (by omega)) ?_
      refine RT.ev rfl rfl (Ev.lssN rfl rfl) ?_
      refine RT.ev rfl rfl (Ev.pickY rfl (decide_eq_true (by omega)) rfl) ?_
      refine RT.ev rfl rfl (Ev.neqB Try.underlying4 rfl rfl) ?_
      refine RT.ev rfl rfl (Ev.move rfl) ?_
      refine RT.yes rfl rfl rfl (bool_neq (rfl) (decide_eq_true (by omega)) rfl) ?_
      refine RT.ev rfl rfl (Ev.move rfl) ?_
      refine RT.yes rfl rfl rfl (bool_neq (rfl) (decide_eq_true (by omega)) rfl) ?_
      refine RT.ev rfl rfl (Ev.move rfl) ?_
      refine RT.yes rfl rfl rfl (rfl) ?_
      refine RT.ev rfl rfl (Ev.move rfl) ?_
      refine RT.yes rfl rfl rfl (rfl) ?_
      refine RT.ev rfl rfl (Ev.move rfl) ?_
      refine RT.yes rfl rfl rfl (rfl) ?_
      refine RT.ev rfl rfl (Ev.move rfl) ?_
      refine RT.yes rfl rfl rfl (rfl) ?_
      refine RT.ev rfl rfl (Ev.idxL (E := encN .i64) sl22 rfl rfl (hv.ext hs_4.ext) (by omega)) ?_
      refine RT.yes rfl rfl rfl (rfl) ?_
      refine RT.ev rfl rfl (Ev.ldL (E := encN .i64) scal3 rfl (hv.ext hs_4.ext) hax_1 (by decide) rfl) ?_
      refine RT.yes rfl rfl rfl (rfl) ?_
      refine RT.ev rfl rfl (Ev.neqN rfl rfl) ?_
      refine RT.yes rfl rfl rfl (bool_neq (rfl) (decide_eq_true (by omega)) rfl) ?_
      refine RT.ev rfl rfl (Ev.pickY rfl (rfl) rfl) ?_
      refine RT.ev rfl rfl (Ev.pickN rfl (bool_neq (rfl) (decide_eq_true (by omega)) rfl) rfl) ?_
      refine RT.ev rfl rfl (Ev.move rfl) ?_
      refine RT.yes rfl rfl rfl (decide_eq_false (fun h => h rfl)) ?_
      refine RT.ev rfl rfl (Ev.move rfl) ?_
      refine RT.yes rfl rfl rfl (decide_eq_false (fun h => h rfl)) ?_
      refine RT.ev rfl rfl (Ev.notB rfl) ?_
      refine RT.yes rfl rfl rfl (decide_eq_false (fun h => h rfl)) ?_
      refine RT.ev rfl rfl (Ev.move rfl) ?_
      refine RT.no rfl rfl rfl (rfl) rfl ?_
      refine RT.no rfl rfl rfl (rfl) rfl ?_
      refine RT.yes rfl rfl rfl (decide_eq_false (fun h => h rfl)) ?_
      refine RT.ev rfl rfl (Ev.pickN rfl (rfl) rfl) ?_
      refine RT.ev rfl rfl (Ev.pickN rfl (decide_eq_false (fun h => h rfl)) rfl) ?_
      refine RT.nil ?_
      refine CW.condF rfl (rfl) ?_
      refine CW.skip ?_
      refine CW.weaken [(0, _), (1, _), (5, _), (7, _), (8, _), (9, _), (70, _)] ⟨rfl, rfl, rfl, rfl, rfl, rfl, rfl, trivial⟩ ?_
      refine CW.region ?_
      refine RT.ev rfl rfl (Ev.move rfl) ?_
      refine RT.ev rfl rfl (Ev.addI (b := 1) rfl rfl (by omega)) ?_
      refine RT.ev rfl rfl (Ev.assign rfl) ?_
      refine RT.nil ?_
      exact ⟨(kk + 1, last_1, kv_1, blk_1), ⟨rfl, rfl, rfl, congrArg some (congrArg (Value.int .i64) (by omega)), trivial⟩, ⟨hs_4, by omega, hca_1⟩, (show (l.length + 2 - (kk + 1)) < (l.length + 2 - kk) from by omega)⟩
    · refine CW.weaken [(0, _), (1, _), (5, _), (7, (Value.int .i64 ((l.length : Nat) : Int))), (30, _), (31, _), (32, _), (33, _)] ⟨rfl, rfl, rfl, congrArg some (congrArg (Value.int .i64) (by omega)), rfl, rfl, rfl, rfl, trivial⟩ ?_
      refine CW.region ?_
      refine RT.ev rfl rfl (Ev.move rfl) ?_
      refine RT.ev rfl rfl (Ev.move rfl) ?_
      refine RT.eff rfl rfl (OpE.call ent23 rfl ((sat_no _ (l.length) (((l.length : Nat) : Int)) _ (hs_2.cell (i := 0) (j := 0) rfl rfl) (.inr (by omega))).mono fun r_4 w_5 h_4 => ?_))
      obtain ⟨rfl, hp_4⟩ := h_4
      have hs_5 : Sat w [cObj g_1 79 [(Value.int .i64 ((l.length : Nat) : Int)), (Value.int .i64 (((kindN l) : Nat) : Int)), lv_1, bv_1, (Value.int .i64 ((last : Nat) : Int)), kv], cL lv_1 3 (encN .i64) (lensK l), cL bv_1 124 (encPt) (ps_1), cParts (ps_1), cL kv 3 (encN .i64) (blk)] _ := hs_2.adds hp_4
      refine RT.ev rfl rfl (Ev.move rfl) ?_
      refine RT.ev rfl rfl (Ev.extract rfl rfl) ?_
      refine RT.ev rfl rfl (Ev.extract rfl rfl) ?_
      refine RT.ev rfl rfl (Ev.assign rfl) ?_
      refine RT.ev rfl rfl (Ev.assign rfl) ?_
      refine RT.nil ?_
      refine CW.seq ?_
      refine CW.region ?_
      refine RT.ev rfl rfl (Ev.move rfl) ?_
      refine RT.ev rfl rfl (Ev.move rfl) ?_
      refine RT.ev rfl rfl (Ev.geqN (b := 0) rfl rfl) ?_
      refine RT.ev rfl rfl (Ev.move rfl) ?_
      refine RT.yes rfl rfl rfl (decide_eq_true (by omega)) ?_
      refine RT.ev rfl rfl (Ev.move rfl) ?_
      refine RT.yes rfl rfl rfl (decide_eq_true (by omega)) ?_
      refine RT.ev rfl rfl (Ev.move rfl) ?_
      refine RT.yes rfl rfl rfl (decide_eq_true (by omega)) ?_
      refine RT.ev rfl rfl (Ev.lenL Try.underlying22 rfl (hv.ext hs_5.ext)) ?_
      refine RT.yes rfl rfl rfl (decide_eq_true (by omega)) ?_
      refine RT.ev rfl rfl (Ev.lssN rfl rfl) ?_
      refine RT.ev rfl rfl (Ev.pickY rfl (decide_eq_true (by omega)) rfl) ?_
      refine RT.ev rfl rfl (Ev.neqB Try.underlying4 rfl rfl) ?_
      refine RT.ev rfl rfl (Ev.move rfl) ?_
      refine RT.yes rfl rfl rfl (bool_neq (rfl) (decide_eq_false (by omega)) rfl) ?_
      refine RT.ev rfl rfl (Ev.move rfl) ?_
      refine RT.yes rfl rfl rfl (bool_neq (rfl) (decide_eq_false (by omega)) rfl) ?_
      refine RT.ev rfl rfl (Ev.move rfl) ?_
      refine RT.no rfl rfl rfl (rfl) rfl ?_
      refine RT.no rfl rfl rfl (rfl) rfl ?_
      refine RT.no rfl rfl rfl (rfl) rfl ?_
      refine RT.no rfl rfl rfl (rfl) rfl ?_
      refine RT.no rfl rfl rfl (rfl) rfl ?_
      refine RT.no rfl rfl rfl (rfl) rfl ?_
      refine RT.yes rfl rfl rfl (bool_neq (rfl) (decide_eq_false (by omega)) rfl) ?_
      refine RT.ev rfl rfl (Ev.pickN rfl (rfl) rfl) ?_
      refine RT.ev rfl rfl (Ev.pickN rfl (bool_neq (rfl) (decide_eq_false (by omega)) rfl) rfl) ?_
      refine RT.ev rfl rfl (Ev.move rfl) ?_
      refine RT.yes rfl rfl rfl (rfl) ?_
      refine RT.ev rfl rfl (Ev.move rfl) ?_
      refine RT.yes rfl rfl rfl (rfl) ?_
      refine RT.ev rfl rfl (Ev.notB rfl) ?_
      refine RT.yes rfl rfl rfl (rfl) ?_
      refine RT.ev rfl rfl (Ev.move rfl) ?_
      refine RT.yes rfl rfl rfl (rfl) ?_
      refine RT.ev rfl rfl (Ev.move rfl) ?_
      refine RT.yes rfl rfl rfl (rfl) ?_
      refine RT.ev rfl rfl (Ev.neqN (a := 0) (b := 0) rfl rfl) ?_
      refine RT.yes rfl rfl rfl (rfl) ?_
      refine RT.ev rfl rfl (Ev.pickY rfl (rfl) rfl) ?_
      refine RT.ev rfl rfl (Ev.pickN rfl (rfl) rfl) ?_
      refine RT.nil ?_
      refine CW.condF rfl (rfl) ?_
      refine CW.skip ?_
      refine CW.weaken [(0, _), (1, _), (5, _), (7, _), (8, _), (9, _), (70, _)] ⟨rfl, rfl, rfl, rfl, rfl, rfl, rfl, trivial⟩ ?_
      refine CW.region ?_
      refine RT.ev rfl rfl (Ev.move rfl) ?_
      refine RT.ev rfl rfl (Ev.addI (b := 1) rfl rfl (by omega)) ?_
      refine RT.ev rfl rfl (Ev.assign rfl) ?_
      refine RT.nil ?_
      exact ⟨(kk + 1, last, kv, blk), ⟨rfl, rfl, rfl, congrArg some (congrArg (Value.int .i64) (by omega)), trivial⟩, ⟨hs_5, by omega, hca⟩, (show (l.length + 2 - (kk + 1)) < (l.length + 2 - kk) from by omega)⟩
  · refine CW.exit0 ?_
    refine CW.seq ?_
    refine CW.region ?_
    refine RT.ev rfl rfl (Ev.move rfl) ?_
    refine RT.ev rfl rfl (Ev.move rfl) ?_
    refine RT.eff rfl rfl (OpE.call ent23 rfl ((sat_no _ (l.length) (i) _ (hs_2.cell (i := 0) (j := 0) rfl rfl) (.inl (by omega))).mono fun r_5 w_6 h_5 => ?_))
    obtain ⟨rfl, hp_5⟩ := h_5
    have hs_6 : Sat w [cObj g_1 79 [(Value.int .i64 ((l.length : Nat) : Int)), (Value.int .i64 (((kindN l) : Nat) : Int)), lv_1, bv_1, (Value.int .i64 ((last : Nat) : Int)), kv], cL lv_1 3 (encN .i64) (lensK l), cL bv_1 124 (encPt) (ps_1), cParts (ps_1), cL kv 3 (encN .i64) (blk)] _ := hs_2.adds hp_5
    refine RT.ev rfl rfl (Ev.move rfl) ?_
    refine RT.ev rfl rfl (Ev.extract rfl rfl) ?_
    refine RT.ev rfl rfl (Ev.extract rfl rfl) ?_
    refine RT.ev rfl rfl (Ev.assign rfl) ?_
    refine RT.ev rfl rfl (Ev.assign rfl) ?_
    refine RT.nil ?_
    refine CW.seq ?_
    refine CW.region ?_
    refine RT.ev rfl rfl (Ev.move rfl) ?_
    refine RT.ev rfl rfl (Ev.move rfl) ?_
    refine RT.ev rfl rfl (Ev.geq rfl rfl) ?_
    refine RT.ev rfl rfl (Ev.move rfl) ?_
    refine RT.no rfl rfl rfl (decide_eq_false (by omega)) rfl ?_
    refine RT.no rfl rfl rfl (decide_eq_false (by omega)) rfl ?_
    refine RT.no rfl rfl rfl (decide_eq_false (by omega)) rfl ?_
    refine RT.no rfl rfl rfl (decide_eq_false (by omega)) rfl ?_
    refine RT.ev rfl rfl (Ev.pickN rfl (decide_eq_false (by omega)) rfl) ?_
    refine RT.ev rfl rfl (Ev.eqlB Try.underlying4 rfl rfl) ?_
    refine RT.ev rfl rfl (Ev.move rfl) ?_
    refine RT.yes rfl rfl rfl (rfl) ?_
    refine RT.ev rfl rfl (Ev.move rfl) ?_
    refine RT.yes rfl rfl rfl (rfl) ?_
    refine RT.ev rfl rfl (Ev.notB rfl) ?_
    refine RT.yes rfl rfl rfl (rfl) ?_
    refine RT.ev rfl rfl (Ev.move rfl) ?_
    refine RT.no rfl rfl rfl (rfl) rfl ?_
    refine RT.no rfl rfl rfl (rfl) rfl ?_
    refine RT.no rfl rfl rfl (rfl) rfl ?_
    refine RT.no rfl rfl rfl (rfl) rfl ?_
    refine RT.no rfl rfl rfl (rfl) rfl ?_
    refine RT.no rfl rfl rfl (rfl) rfl ?_
    refine RT.yes rfl rfl rfl (rfl) ?_
    refine RT.ev rfl rfl (Ev.pickY rfl (rfl) rfl) ?_
    refine RT.ev rfl rfl (Ev.pickY rfl (rfl) rfl) ?_
    refine RT.ev rfl rfl (Ev.move rfl) ?_
    refine RT.yes rfl rfl rfl (rfl) ?_
    refine RT.eff rfl rfl (OpE.call ent22 rfl ((awake_ok _).mono fun r_6 w_7 h_6 => ?_))
    obtain ⟨rfl, hp_6⟩ := h_6
    have hs_7 : Sat w [cObj g_1 79 [(Value.int .i64 ((l.length : Nat) : Int)), (Value.int .i64 (((kindN l) : Nat) : Int)), lv_1, bv_1, (Value.int .i64 ((last : Nat) : Int)), kv], cL lv_1 3 (encN .i64) (lensK l), cL bv_1 124 (encPt) (ps_1), cParts (ps_1), cL kv 3 (encN .i64) (blk)] _ := hs_6.adds hp_6
    refine RT.ev rfl rfl (Ev.pickY rfl (rfl) rfl) ?_
    refine RT.ev rfl rfl (Ev.assign rfl) ?_
    refine RT.nil ?_
    refine CW.ret ?_
    show PostK _ _ _ _ _ _
    refine post1 rfl rfl ?_
    have hs_8 : Sat w [] w_7 := hs_7.sub ((.cons _ (.cons _ (.cons _ (.cons _ (.cons _ .slnil))))))
    exact ⟨rfl, hs_8⟩

set_option maxHeartbeats 1000000 in
theorem tr_high (v : Value) (l : List Nat) (w : World) (hv : RdL w v (encN .i64) l) (hl : OkN l) (i : Nat) (hi : l.length ≤ i) (hz : l.length ≤ 300) :
    CallsV Try.prog 4 [v, (Value.int .i64 ((i : Nat) : Int))] w fun r w' => r = .bool true ∧ Sat w [] w' := by
  have hs0 := Sat.start w
  refine callsV_of Try.func4 rfl rfl ?_
  refine CW.seq ?_
  refine CW.region ?_
  refine RT.ev rfl rfl (Ev.assign rfl) ?_
  refine RT.nil ?_
  refine CW.seq ?_
  refine CW.seq ?_
  refine CW.region ?_
  refine RT.ev rfl rfl (Ev.move rfl) ?_
  refine RT.ev rfl rfl (Ev.lenL Try.underlying22 rfl (hv.ext hs0.ext)) ?_
  refine RT.ev rfl rfl (Ev.gtrN (b := 300) rfl rfl) ?_
  refine RT.nil ?_
  refine CW.condF rfl (decide_eq_false (by omega)) ?_
  refine CW.skip ?_
  refine CW.seq ?_
  refine CW.region ?_
  refine RT.ev rfl rfl (Ev.move rfl) ?_
  refine RT.eff rfl rfl (OpE.call ent20 rfl ((built_ok _ (l) _ (hv.ext hs0.ext) (hl)).mono fun r_1 w_1 h_1 => ?_))
  obtain ⟨g_1, lv_1, bv_1, ps_1, rfl, hps_1, hp_1⟩ := h_1
  have hs_1 : Sat w [cObj g_1 79 [(Value.int .i64 (((l).length : Nat) : Int)), (Value.int .i64 (((kindN l) : Nat) : Int)), lv_1, bv_1, (Value.int .i64 ((0 : Nat) : Int)), (Value.slice none 0 0)], cL lv_1 3 (encN .i64) (lensK l), cL bv_1 124 (encPt) (ps_1), cParts (ps_1), cL (Value.slice none 0 0) 3 (encN .i64) ([])] _ := hs0.adds hp_1
  refine RT.ev rfl rfl (Ev.move rfl) ?_
  refine RT.ev rfl rfl (Ev.extract rfl rfl) ?_
  refine RT.ev rfl rfl (Ev.extract rfl rfl) ?_
  refine RT.ev rfl rfl (Ev.assign rfl) ?_
  refine RT.ev rfl rfl (Ev.assign rfl) ?_
  refine RT.nil ?_
  refine CW.seq ?_
  refine CW.seq ?_
  refine CW.region ?_
  refine RT.ev rfl rfl (Ev.move rfl) ?_
  refine RT.ev rfl rfl (Ev.notB rfl) ?_
  refine RT.ev rfl rfl (Ev.move rfl) ?_
  refine RT.yes rfl rfl rfl (rfl) ?_
  refine RT.ev rfl rfl (Ev.move rfl) ?_
  refine RT.yes rfl rfl rfl (rfl) ?_
  refine RT.ev rfl rfl (Ev.eqlPt Try.underlying23 rfl rfl) ?_
  refine RT.ev rfl rfl (Ev.pickN rfl (rfl) rfl) ?_
  refine RT.nil ?_
  refine CW.condF rfl (rfl) ?_
  refine CW.skip ?_
  refine CW.seq ?_
  refine CW.seq ?_
  refine CW.region ?_
  refine RT.ev rfl rfl (Ev.assign rfl) ?_
  refine RT.nil ?_
  refine CW.block ?_
  refine CW.loop (α := Nat × Nat × Value × List Nat) (fun (kk, last, kv, blk) => [(0, v), (1, (Value.int .i64 ((i : Nat) : Int))), (5, (Value.pointer (some ⟨g_1, 0, none⟩))), (7, (Value.int .i64 ((((kk : Nat) : Int) - 1))))]) (fun (kk, last, kv, blk) w' => Sat w [cObj g_1 79 [(Value.int .i64 ((l.length : Nat) : Int)), (Value.int .i64 (((kindN l) : Nat) : Int)), lv_1, bv_1, (Value.int .i64 ((last : Nat) : Int)), kv], cL lv_1 3 (encN .i64) (lensK l), cL bv_1 124 (encPt) (ps_1), cParts (ps_1), cL kv 3 (encN .i64) (blk)] w' ∧ (kk ≤ l.length + 2) ∧ (CacheOk l last blk)) (fun (kk, last, kv, blk) => l.length + 2 - kk) (0, 0, (Value.slice none 0 0), []) ⟨rfl, rfl, rfl, rfl, trivial⟩ ⟨hs_1, by omega, CacheOk.zero l⟩ ?_
  rintro ⟨kk, last, kv, blk⟩ w_2 ⟨hs_2, hkk, hca⟩
  show CW _ _ _ _ [(0, v), (1, (Value.int .i64 ((i : Nat) : Int))), (5, (Value.pointer (some ⟨g_1, 0, none⟩))), (7, (Value.int .i64 ((((kk : Nat) : Int) - 1))))] _
  refine CW.seq ?_
  refine CW.seq ?_
  refine CW.region ?_
  refine RT.ev rfl rfl (Ev.move rfl) ?_
  refine RT.ev rfl rfl (Ev.move rfl) ?_
  refine RT.ev rfl rfl (Ev.lenL Try.underlying22 rfl (hv.ext hs_2.ext)) ?_
  refine RT.ev rfl rfl (Ev.leq rfl rfl) ?_
  refine RT.nil ?_
  refine CW.condD rfl (fun hc_1 => ?_) (fun hc_1 => ?_)
  · refine CW.skip ?_
    refine CW.seq ?_
    refine CW.block ?_
    refine CW.seq ?_
    rcases (show kk = 0 ∨ (1 ≤ kk ∧ kk ≤ l.length) ∨ kk = l.length + 1 by omega) with hw | hw | hw
    · refine CW.weaken [(0, _), (1, _), (5, _), (7, (Value.int .i64 ((-1)))), (30, _), (31, _), (32, _), (33, _)] ⟨rfl, rfl, rfl, congrArg some (congrArg (Value.int .i64) (by omega)), rfl, rfl, rfl, rfl, trivial⟩ ?_
      refine CW.region ?_
      refine RT.ev rfl rfl (Ev.move rfl) ?_
      refine RT.ev rfl rfl (Ev.move rfl) ?_
      refine RT.eff rfl rfl (OpE.call ent23 rfl ((sat_no _ (l.length) ((-1)) _ (hs_2.cell (i := 0) (j := 0) rfl rfl) (.inl (by omega))).mono fun r_2 w_3 h_2 => ?_))
      obtain ⟨rfl, hp_2⟩ := h_2
      have hs_3 : Sat w [cObj g_1 79 [(Value.int .i64 ((l.length : Nat) : Int)), (Value.int .i64 (((kindN l) : Nat) : Int)), lv_1, bv_1, (Value.int .i64 ((last : Nat) : Int)), kv], cL lv_1 3 (encN .i64) (lensK l), cL bv_1 124 (encPt) (ps_1), cParts (ps_1), cL kv 3 (encN .i64) (blk)] _ := hs_2.adds hp_2
      refine RT.ev rfl rfl (Ev.move rfl) ?_
      refine RT.ev rfl rfl (Ev.extract rfl rfl) ?_
      refine RT.ev rfl rfl (Ev.extract rfl rfl) ?_
      refine RT.ev rfl rfl (Ev.assign rfl) ?_
      refine RT.ev rfl rfl (Ev.assign rfl) ?_
      refine RT.nil ?_
      refine CW.seq ?_
      refine CW.region ?_
      refine RT.ev rfl rfl (Ev.move rfl) ?_
      refine RT.ev rfl rfl (Ev.move rfl) ?_
      refine RT.ev rfl rfl (Ev.geq rfl rfl) ?_
      refine RT.ev rfl rfl (Ev.move rfl) ?_
      refine RT.no rfl rfl rfl (decide_eq_false (by omega)) rfl ?_
      refine RT.no rfl rfl rfl (decide_eq_false (by omega)) rfl ?_
      refine RT.no rfl rfl rfl (decide_eq_false (by omega)) rfl ?_
      refine RT.no rfl rfl rfl (decide_eq_false (by omega)) rfl ?_
      refine RT.ev rfl rfl (Ev.pickN rfl (decide_eq_false (by omega)) rfl) ?_
      refine RT.ev rfl rfl (Ev.neqB Try.underlying4 rfl rfl) ?_
      refine RT.ev rfl rfl (Ev.move rfl) ?_
      refine RT.yes rfl rfl rfl (bool_neq (rfl) (rfl) rfl) ?_
      refine RT.ev rfl rfl (Ev.move rfl) ?_
      refine RT.yes rfl rfl rfl (bool_neq (rfl) (rfl) rfl) ?_
      refine RT.ev rfl rfl (Ev.move rfl) ?_
      refine RT.no rfl rfl rfl (rfl) rfl ?_
      refine RT.no rfl rfl rfl (rfl) rfl ?_
      refine RT.no rfl rfl rfl (rfl) rfl ?_
      refine RT.no rfl rfl rfl (rfl) rfl ?_
      refine RT.no rfl rfl rfl (rfl) rfl ?_
      refine RT.no rfl rfl rfl (rfl) rfl ?_
      refine RT.yes rfl rfl rfl (bool_neq (rfl) (rfl) rfl) ?_
      refine RT.ev rfl rfl (Ev.pickN rfl (rfl) rfl) ?_
      refine RT.ev rfl rfl (Ev.pickN rfl (bool_neq (rfl) (rfl) rfl) rfl) ?_
      refine RT.ev rfl rfl (Ev.move rfl) ?_
      refine RT.yes rfl rfl rfl (rfl) ?_
      refine RT.ev rfl rfl (Ev.move rfl) ?_
      refine RT.yes rfl rfl rfl (rfl) ?_
      refine RT.ev rfl rfl (Ev.notB rfl) ?_
      refine RT.yes rfl rfl rfl (rfl) ?_
      refine RT.ev rfl rfl (Ev.move rfl) ?_
      refine RT.yes rfl rfl rfl (rfl) ?_
      refine RT.ev rfl rfl (Ev.move rfl) ?_
      refine RT.yes rfl rfl rfl (rfl) ?_
      refine RT.ev rfl rfl (Ev.neqN (a := 0) (b := 0) rfl rfl) ?_
      refine RT.yes rfl rfl rfl (rfl) ?_
      refine RT.ev rfl rfl (Ev.pickY rfl (rfl) rfl) ?_
      refine RT.ev rfl rfl (Ev.pickN rfl (rfl) rfl) ?_
      refine RT.nil ?_
      refine CW.condF rfl (rfl) ?_
      refine CW.skip ?_
      refine CW.weaken [(0, _), (1, _), (5, _), (7, _), (8, _), (9, _), (70, _)] ⟨rfl, rfl, rfl, rfl, rfl, rfl, rfl, trivial⟩ ?_
      refine CW.region ?_
      refine RT.ev rfl rfl (Ev.move rfl) ?_
      refine RT.ev rfl rfl (Ev.add (b := (1 : Int)) (a := (-1 : Int)) rfl rfl (by unfold inI64; omega)) ?_
      refine RT.ev rfl rfl (Ev.assign rfl) ?_
      refine RT.nil ?_
      exact ⟨(kk + 1, last, kv, blk), ⟨rfl, rfl, rfl, congrArg some (congrArg (Value.int .i64) (by omega)), trivial⟩, ⟨hs_3, by omega, hca⟩, (show (l.length + 2 - (kk + 1)) < (l.length + 2 - kk) from by omega)⟩
    · obtain ⟨i2, hi2⟩ : ∃ i2, kk = i2 + 1 := ⟨kk - 1, by omega⟩
      refine CW.weaken [(0, _), (1, _), (5, _), (7, (Value.int .i64 ((i2 : Nat) : Int))), (30, _), (31, _), (32, _), (33, _)] ⟨rfl, rfl, rfl, congrArg some (congrArg (Value.int .i64) (by omega)), rfl, rfl, rfl, rfl, trivial⟩ ?_
      refine CW.region ?_
      refine RT.ev rfl rfl (Ev.move rfl) ?_
      refine RT.ev rfl rfl (Ev.move rfl) ?_
      have hA_1 : Sat w ([cObj g_1 79 [(Value.int .i64 ((l.length : Nat) : Int)), (Value.int .i64 (((kindN l) : Nat) : Int)), lv_1, bv_1, (Value.int .i64 ((last : Nat) : Int)), kv], cL lv_1 3 (encN .i64) (lensK l), cL bv_1 124 (encPt) (ps_1), cParts (ps_1), cL kv 3 (encN .i64) (blk)] ++ ([] ++ [])) _ := (Sat.order [0, 1, 2, 3, 4] (by decide) hs_2.tail).cut 5
      refine RT.eff rfl rfl (OpE.call ent23 rfl ((sat_ok _ _ _ _ _ _ _ (l) (blk) (ps_1) (last) hA_1 (hl) (hps_1) (hca) (i2) (by omega)).mono fun r_3 w_4 h_3 => ?_))
      obtain ⟨ax_1, hax_1, rfl, last_1, kv_1, blk_1, hca_1, hp_3⟩ := h_3
      have hs_4 : Sat w [cObj g_1 79 [(Value.int .i64 ((l.length : Nat) : Int)), (Value.int .i64 (((kindN l) : Nat) : Int)), lv_1, bv_1, (Value.int .i64 ((last_1 : Nat) : Int)), kv_1], cL lv_1 3 (encN .i64) (lensK l), cL bv_1 124 (encPt) (ps_1), cParts (ps_1), cL kv_1 3 (encN .i64) (blk_1)] _ := (Sat.order [0, 1, 2, 3, 4] (by decide) hp_3.join).untail
      refine RT.ev rfl rfl (Ev.move rfl) ?_
      refine RT.ev rfl rfl (Ev.extract rfl rfl) ?_
      refine RT.ev rfl rfl (Ev.extract rfl rfl) ?_
      refine RT.ev rfl rfl (Ev.assign rfl) ?_
      refine RT.ev rfl rfl (Ev.assign rfl) ?_
      refine RT.nil ?_
      refine CW.seq ?_
      refine CW.region ?_
      refine RT.ev rfl rfl (Ev.move rfl) ?_
      refine RT.ev rfl rfl (Ev.move rfl) ?_
      refine RT.ev rfl rfl (Ev.geqN (b := 0) rfl rfl) ?_
      refine RT.ev rfl rfl (Ev.move rfl) ?_
      refine RT.yes rfl rfl rfl (decide_eq_true (by omega)) ?_
      refine RT.ev rfl rfl (Ev.move rfl) ?_
      refine RT.yes rfl rfl rfl (decide_eq_true (by omega)) ?_
      refine RT.ev rfl rfl (Ev.move rfl) ?_
      refine RT.yes rfl rfl rfl (decide_eq_true (by omega)) ?_
      refine RT.ev rfl rfl (Ev.lenL Try.underlying22 rfl (hv.ext hs_4.ext)) ?_
      refine RT.yes rfl rfl rfl (decide_eq_true (by omega)) ?_
      refine RT.ev rfl rfl (Ev.lssN rfl rfl) ?_
      refine RT.ev rfl rfl (Ev.pickY rfl (decide_eq_true (by omega)) rfl) ?_
      refine RT.ev rfl rfl (Ev.neqB Try.underlying4 rfl rfl) ?_
      refine RT.ev rfl rfl (Ev.move rfl) ?_
      refine RT.yes rfl rfl rfl (bool_neq (rfl) (decide_eq_true (by omega)) rfl) ?_
      refine RT.ev rfl rfl (Ev.move rfl) ?_
      refine RT.yes rfl rfl rfl (bool_neq (rfl) (decide_eq_true (by omega)) rfl) ?_
      refine RT.ev rfl rfl (Ev.move rfl) ?_
      refine RT.yes rfl rfl rfl (rfl) ?_
      refine RT.ev rfl rfl (Ev.move rfl) ?_
      refine RT.yes rfl rfl rfl (rfl) ?_
      refine RT.ev rfl rfl (Ev.move rfl) ?_
      refine RT.yes rfl rfl rfl (rfl) ?_
      refine RT.ev rfl rfl (Ev.move rfl) ?_
      refine RT.yes rfl rfl rfl (rfl) ?_
      refine RT.ev rfl rfl (Ev.idxL (E := encN .i64) sl22 rfl rfl (hv.ext hs_4.ext) (by omega)) ?_
      refine RT.yes rfl rfl rfl (rfl) ?_
      refine RT.ev rfl rfl (Ev.ldL (E := encN .i64) scal3 rfl (hv.ext hs_4.ext) hax_1 (by decide) rfl) ?_
      refine RT.yes rfl rfl rfl (rfl) ?_
      refine RT.ev rfl rfl (Ev.neqN rfl rfl) ?_
      refine RT.yes rfl rfl rfl (bool_neq (rfl) (decide_eq_true (by omega)) rfl) ?_
      refine RT.ev rfl rfl (Ev.pickY rfl (rfl) rfl) ?_
      refine RT.ev rfl rfl (Ev.pickN rfl (bool_neq (rfl) (decide_eq_true (by omega)) rfl) rfl) ?_
      refine RT.ev rfl rfl (Ev.move rfl) ?_
      refine RT.yes rfl rfl rfl (decide_eq_false (fun h => h rfl)) ?_
      refine RT.ev rfl rfl (Ev.move rfl) ?_
      refine RT.yes rfl rfl rfl (decide_eq_false (fun h => h rfl)) ?_
      refine RT.ev rfl rfl (Ev.notB rfl) ?_
      refine RT.yes rfl rfl rfl (decide_eq_false (fun h => h rfl)) ?_
      refine RT.ev rfl rfl (Ev.move rfl) ?_
      refine RT.no rfl rfl rfl (rfl) rfl ?_
      refine RT.no rfl rfl rfl (rfl) rfl ?_
      refine RT.yes rfl rfl rfl (decide_eq_false (fun h => h rfl)) ?_
      refine RT.ev rfl rfl (Ev.pickN rfl (rfl) rfl) ?_
      refine RT.ev rfl rfl (Ev.pickN rfl (decide_eq_false (fun h => h rfl)) rfl) ?_
      refine RT.nil ?_
      refine CW.condF rfl (rfl) ?_
      refine CW.skip ?_
      refine CW.weaken [(0, _), (1, _), (5, _), (7, _), (8, _), (9, _), (70, _)] ⟨rfl, rfl, rfl, rfl, rfl, rfl, rfl, trivial⟩ ?_
      refine CW.region ?_
      refine RT.ev rfl rfl (Ev.move rfl) ?_
      refine RT.ev rfl rfl (Ev.addI (b := 1) rfl rfl (by omega)) ?_
      refine RT.ev rfl rfl (Ev.assign rfl) ?_
      refine RT.nil ?_
      exact ⟨(kk + 1, last_1, kv_1, blk_1), ⟨rfl, rfl, rfl, congrArg some (congrArg (Value.int .i64) (by omega)), trivial⟩, ⟨hs_4, by omega, hca_1⟩, (show (l.length + 2 - (kk + 1)) < (l.length + 2 - kk) from by omega)⟩
    · refine CW.weaken [(0, _), (1, _), (5, _), (7, (Value.int .i64 ((l.length : Nat) : Int))), (30, _), (31, _), (32, _), (33, _)] ⟨rfl, rfl, rfl, congrArg some (congrArg (Value.int .i64) (by omega)), rfl, rfl, rfl, rfl, trivial⟩ ?_
      refine CW.region ?_
      refine RT.ev rfl rfl (Ev.move rfl) ?_
      refine RT.ev rfl rfl (Ev.move rfl) ?_
      refine RT.eff rfl rfl (OpE.call ent23 rfl ((sat_no _ (l.length) (((l.length : Nat) : Int)) _ (hs_2.cell (i := 0) (j := 0) rfl rfl) (.inr (by omega))).mono fun r_4 w_5 h_4 => ?_))
      obtain ⟨rfl, hp_4⟩ := h_4
      have hs_5 : Sat w [cObj g_1 79 [(Value.int .i64 ((l.length : Nat) : Int)), (Value.int .i64 (((kindN l) : Nat) : Int)), lv_1, bv_1, (Value.int .i64 ((last : Nat) : Int)), kv], cL lv_1 3 (encN .i64) (lensK l), cL bv_1 124 (encPt) (ps_1), cParts (ps_1), cL kv 3 (encN .i64) (blk)] _ := hs_2.adds hp_4
      refine RT.ev rfl rfl (Ev.move rfl) ?_
      refine RT.ev rfl rfl (Ev.extract rfl rfl) ?_
      refine RT.ev rfl rfl (Ev.extract rfl rfl) ?_
      refine RT.ev rfl rfl (Ev.assign rfl) ?_
      refine RT.ev rfl rfl (Ev.assign rfl) ?_
      refine RT.nil ?_
      refine CW.seq ?_
      refine CW.region ?_
      refine RT.ev rfl rfl (Ev.move rfl) ?_
      refine RT.ev rfl rfl (Ev.move rfl) ?_
      refine RT.ev rfl rfl (Ev.geqN (b := 0) rfl rfl) ?_
      refine RT.ev rfl rfl (Ev.move rfl) ?_
      refine RT.yes rfl rfl rfl (decide_eq_true (by omega)) ?_
      refine RT.ev rfl rfl (Ev.move rfl) ?_
      refine RT.yes rfl rfl rfl (decide_eq_true (by omega)) ?_
      refine RT.ev rfl rfl (Ev.move rfl) ?_
      refine RT.yes rfl rfl rfl (decide_eq_true (by omega)) ?_
      refine RT.ev rfl rfl (Ev.lenL Try.underlying22 rfl (hv.ext hs_5.ext)) ?_
      refine RT.yes rfl rfl rfl (decide_eq_true (by omega)) ?_
      refine RT.ev rfl rfl (Ev.lssN rfl rfl) ?_
      refine RT.ev rfl rfl (Ev.pickY rfl (decide_eq_true (by omega)) rfl) ?_
      refine RT.ev rfl rfl (Ev.neqB Try.underlying4 rfl rfl) ?_
      refine RT.ev rfl rfl (Ev.move rfl) ?_
      refine RT.yes rfl rfl rfl (bool_neq (rfl) (decide_eq_false (by omega)) rfl) ?_
      refine RT.ev rfl rfl (Ev.move rfl) ?_
      refine RT.yes rfl rfl rfl (bool_neq (rfl) (decide_eq_false (by omega)) rfl) ?_
      refine RT.ev rfl rfl (Ev.move rfl) ?_
      refine RT.no rfl rfl rfl (rfl) rfl ?_
      refine RT.no rfl rfl rfl (rfl) rfl ?_
      refine RT.no rfl rfl rfl (rfl) rfl ?_
      refine RT.no rfl rfl rfl (rfl) rfl ?_
      refine RT.no rfl rfl rfl (rfl) rfl ?_
      refine RT.no rfl rfl rfl (rfl) rfl ?_
      refine RT.yes rfl rfl rfl (bool_neq (rfl) (decide_eq_false (by omega)) rfl) ?_
      refine RT.ev rfl rfl (Ev.pickN rfl (rfl) rfl) ?_
      refine RT.ev rfl rfl (Ev.pickN rfl (bool_neq (rfl) (decide_eq_false (by omega)) rfl) rfl) ?_
      refine RT.ev rfl rfl (Ev.move rfl) ?_
      refine RT.yes rfl rfl rfl (rfl) ?_
      refine RT.ev rfl rfl (Ev.move rfl) ?_
      refine RT.yes rfl rfl rfl (rfl) ?_
      refine RT.ev rfl rfl (Ev.notB rfl) ?_
      refine RT.yes rfl rfl rfl (rfl) ?_
      refine RT.ev rfl rfl (Ev.move rfl) ?_
      refine RT.yes rfl rfl rfl (rfl) ?_
      refine RT.ev rfl rfl (Ev.move rfl) ?_
      refine RT.yes rfl rfl rfl (rfl) ?_
      refine RT.ev rfl rfl (Ev.neqN (a := 0) (b := 0) rfl rfl) ?_
      refine RT.yes rfl rfl rfl (rfl) ?_
      refine RT.ev rfl rfl (Ev.pickY rfl (rfl) rfl) ?_
      refine RT.ev rfl rfl (Ev.pickN rfl (rfl) rfl) ?_
      refine RT.nil ?_
      refine CW.condF rfl (rfl) ?_
      refine CW.skip ?_
      refine CW.weaken [(0, _), (1, _), (5, _), (7, _), (8, _), (9, _), (70, _)] ⟨rfl, rfl, rfl, rfl, rfl, rfl, rfl, trivial⟩ ?_
      refine CW.region ?_
      refine RT.ev rfl rfl (Ev.move rfl) ?_
      refine RT.ev rfl rfl (Ev.addI (b := 1) rfl rfl (by omega)) ?_
      refine RT.ev rfl rfl (Ev.assign rfl) ?_
      refine RT.nil ?_
      exact ⟨(kk + 1, last, kv, blk), ⟨rfl, rfl, rfl, congrArg some (congrArg (Value.int .i64) (by omega)), trivial⟩, ⟨hs_5, by omega, hca⟩, (show (l.length + 2 - (kk + 1)) < (l.length + 2 - kk) from by omega)⟩
  · refine CW.exit0 ?_
    refine CW.seq ?_
    refine CW.region ?_
    refine RT.ev rfl rfl (Ev.move rfl) ?_
    refine RT.ev rfl rfl (Ev.move rfl) ?_
    refine RT.eff rfl rfl (OpE.call ent23 rfl ((sat_no _ (l.length) (((i : Nat) : Int)) _ (hs_2.cell (i := 0) (j := 0) rfl rfl) (.inr (by omega))).mono fun r_5 w_6 h_5 => ?_))
    obtain ⟨rfl, hp_5⟩ := h_5
    have hs_6 : Sat w [cObj g_1 79 [(Value.int .i64 ((l.length : Nat) : Int)), (Value.int .i64 (((kindN l) : Nat) : Int)), lv_1, bv_1, (Value.int .i64 ((last : Nat) : Int)), kv], cL lv_1 3 (encN .i64) (lensK l), cL bv_1 124 (encPt) (ps_1), cParts (ps_1), cL kv 3 (encN .i64) (blk)] _ := hs_2.adds hp_5
    refine RT.ev rfl rfl (Ev.move rfl) ?_
    refine RT.ev rfl rfl (Ev.extract rfl rfl) ?_
    refine RT.ev rfl rfl (Ev.extract rfl rfl) ?_
    refine RT.ev rfl rfl (Ev.assign rfl) ?_
    refine RT.ev rfl rfl (Ev.assign rfl) ?_
    refine RT.nil ?_
    refine CW.seq ?_
    refine CW.region ?_
    refine RT.ev rfl rfl (Ev.move rfl) ?_
    refine RT.ev rfl rfl (Ev.move rfl) ?_
    refine RT.ev rfl rfl (Ev.geqN (b := 0) rfl rfl) ?_
    refine RT.ev rfl rfl (Ev.move rfl) ?_
    refine RT.yes rfl rfl rfl (decide_eq_true (by omega)) ?_
    refine RT.ev rfl rfl (Ev.move rfl) ?_
    refine RT.yes rfl rfl rfl (decide_eq_true (by omega)) ?_
    refine RT.ev rfl rfl (Ev.move rfl) ?_
    refine RT.yes rfl rfl rfl (decide_eq_true (by omega)) ?_
    refine RT.ev rfl rfl (Ev.lenL Try.underlying22 rfl (hv.ext hs_6.ext)) ?_
    refine RT.yes rfl rfl rfl (decide_eq_true (by omega)) ?_
    refine RT.ev rfl rfl (Ev.lssN rfl rfl) ?_
    refine RT.ev rfl rfl (Ev.pickY rfl (decide_eq_true (by omega)) rfl) ?_
    refine RT.ev rfl rfl (Ev.eqlB Try.underlying4 rfl rfl) ?_
    refine RT.ev rfl rfl (Ev.move rfl) ?_
    refine RT.yes rfl rfl rfl (bool_eql (rfl) (decide_eq_false (by omega)) rfl) ?_
    refine RT.ev rfl rfl (Ev.move rfl) ?_
    refine RT.yes rfl rfl rfl (bool_eql (rfl) (decide_eq_false (by omega)) rfl) ?_
    refine RT.ev rfl rfl (Ev.notB rfl) ?_
    refine RT.yes rfl rfl rfl (bool_eql (rfl) (decide_eq_false (by omega)) rfl) ?_
    refine RT.ev rfl rfl (Ev.move rfl) ?_
    refine RT.no rfl rfl rfl (rfl) rfl ?_
    refine RT.no rfl rfl rfl (rfl) rfl ?_
    refine RT.no rfl rfl rfl (rfl) rfl ?_
    refine RT.no rfl rfl rfl (rfl) rfl ?_
    refine RT.no rfl rfl rfl (rfl) rfl ?_
    refine RT.no rfl rfl rfl (rfl) rfl ?_
    refine RT.yes rfl rfl rfl (bool_eql (rfl) (decide_eq_false (by omega)) rfl) ?_
    refine RT.ev rfl rfl (Ev.pickY rfl (rfl) rfl) ?_
    refine RT.ev rfl rfl (Ev.pickY rfl (bool_eql (rfl) (decide_eq_false (by omega)) rfl) rfl) ?_
    refine RT.ev rfl rfl (Ev.move rfl) ?_
    refine RT.yes rfl rfl rfl (rfl) ?_
    refine RT.eff rfl rfl (OpE.call ent22 rfl ((awake_ok _).mono fun r_6 w_7 h_6 => ?_))
    obtain ⟨rfl, hp_6⟩ := h_6
    have hs_7 : Sat w [cObj g_1 79 [(Value.int .i64 ((l.length : Nat) : Int)), (Value.int .i64 (((kindN l) : Nat) : Int)), lv_1, bv_1, (Value.int .i64 ((last : Nat) : Int)), kv], cL lv_1 3 (encN .i64) (lensK l), cL bv_1 124 (encPt) (ps_1), cParts (ps_1), cL kv 3 (encN .i64) (blk)] _ := hs_6.adds hp_6
    refine RT.ev rfl rfl (Ev.pickY rfl (rfl) rfl) ?_
    refine RT.ev rfl rfl (Ev.assign rfl) ?_
    refine RT.nil ?_
    refine CW.ret ?_
    show PostK _ _ _ _ _ _
    refine post1 rfl rfl ?_
    have hs_8 : Sat w [] w_7 := hs_7.sub ((.cons _ (.cons _ (.cons _ (.cons _ (.cons _ .slnil))))))
    exact ⟨rfl, hs_8⟩

theorem tokensReads_ok (v : Value) (z : List Int) (i : Int) (w : World) (hv : RdL w v (encI .i64) z) : CallsV Try.prog 4 [v, .int .i64 i] w fun r w' => r = .bool true ∧ Sat w [] w' := by
  rcases Nat.lt_or_ge 300 z.length with h | h
  · exact tr_long v z w hv i h
  · by_cases hb : ∃ x ∈ z, x < 0 ∨ 1024 ≤ x
    · exact tr_range v z w hv i h hb
    · obtain ⟨h0, hok⟩ := nats_ok (by omega) hb
      by_cases hn : i < 0
      · exact tr_neg v _ w (hv.nats h0) hok i hn (by simpa using h)
      · have e : ((i.toNat : Nat) : Int) = i := Int.toNat_of_nonneg (by omega)
        rcases Nat.lt_or_ge i.toNat (z.map Int.toNat).length with h1 | h1
        · have := tr_in v _ w (hv.nats h0) hok i.toNat h1 (by simpa using h)
          rw [e] at this; exact this
        · have := tr_high v _ w (hv.nats h0) hok i.toNat h1 (by simpa using h)
          rw [e] at this; exact this

end Go.Proofs.Ytfhbflhnelbkfaa
