/- The walks of the functions of F16c, printed by our own program (kwgen.py) out of our descriptions (base.py). -/
import Derived.Test.YtfhbflhnelbkfaaF03
import Derived.Test.YtfhbflhnelbkfaaKt
import Derived.Test.YtfhbflhnelbkfaaM16a
import Derived.Test.YtfhbflhnelbkfaaTab
namespace Go.Proofs.Ytfhbflhnelbkfaa
open Go.RowKit Go.Kw
set_option maxRecDepth 100000
set_option linter.unusedVariables false
set_option linter.unusedSimpArgs false
theorem rcheck_range (v : Value) (z : List Int) (w : World) (hv : RdL w v (encI .i64) z) (hz : z.length ≤ 4096) (hbad : ∃ x ∈ z, x < 0 ∨ 1024 ≤ x) :
    CallsV Try.prog 57 [v] w fun r w' => r = .int .i64 ((8 : Nat) : Int) ∧ Sat w [] w' := by
  have hs0 := Sat.start w
  refine callsV_of Try.func57 rfl rfl ?_
  refine CW.seq ?_
  refine CW.region ?_
  refine RT.ev rfl rfl (Ev.assign rfl) ?_
  refine RT.nil ?_
  refine CW.seq ?_
  refine CW.seq ?_
  refine CW.region ?_
  refine RT.ev rfl rfl (Ev.move rfl) <| RT.ev rfl rfl (Ev.lenL Try.underlying22 rfl (hv.ext hs0.ext)) <| RT.ev rfl rfl (Ev.gtrN (b := 4096) rfl rfl) ?_
  refine RT.nil ?_
  refine CW.condF rfl (decide_eq_false (by omega)) ?_
  refine CW.skip ?_
  refine CW.seq ?_
  refine CW.seq ?_
  refine CW.region ?_
  refine RT.ev rfl rfl (Ev.move rfl) <| RT.ev rfl rfl (Ev.lenL Try.underlying22 rfl (hv.ext hs0.ext)) <| RT.ev rfl rfl (Ev.move rfl) ?_
  refine RT.nil ?_
  refine CW.block ?_
  refine CW.loop (α := Nat) (fun k => [(0, v), (8, v), (9, (Value.int .i64 ((z.length : Nat) : Int))), (10, (Value.int .i64 ((k : Nat) : Int)))]) (fun k w' => Sat w [] w' ∧ (k ≤ z.length) ∧ (∀ x ∈ z.take k, ¬ (x < 0 ∨ 1024 ≤ x))) (fun k => z.length - k) 0 ⟨rfl, rfl, rfl, rfl, trivial⟩ ⟨hs0, Nat.zero_le _, by simp⟩ ?_
  rintro k w_1 ⟨hs_1, hk, hgd⟩
  show CW _ _ _ _ [(0, v), (8, v), (9, (Value.int .i64 ((z.length : Nat) : Int))), (10, (Value.int .i64 ((k : Nat) : Int)))] _
  refine CW.seq ?_
  refine CW.region ?_
  refine RT.ev rfl rfl (Ev.lssN rfl rfl) ?_
  refine RT.nil ?_
  refine CW.seq ?_
  refine CW.condD rfl (fun hc_1 => ?_) (fun hc_1 => ?_)
  · refine CW.skip ?_
    refine CW.seq ?_
    refine CW.block ?_
    refine CW.seq ?_
    obtain ⟨x, hx⟩ : ∃ x, (z)[k]? = some x := ⟨_, List.getElem?_eq_getElem hc_1⟩
    refine CW.region ?_
    refine RT.ev rfl rfl (Ev.idxL (E := encI .i64) sl22 rfl rfl (hv.ext hs_1.ext) (by omega)) <| RT.ev rfl rfl (Ev.ldL (E := encI .i64) scal3 rfl (hv.ext hs_1.ext) hx (by decide) rfl) <| RT.ev rfl rfl (Ev.assign rfl) ?_
    refine RT.nil ?_
    refine CW.seq ?_
    refine CW.mid (fun L' w' => Weak [(0, v), (4, (Value.int .i64 (x))), (8, v), (9, (Value.int .i64 ((z.length : Nat) : Int))), (10, (Value.int .i64 ((k : Nat) : Int))), (11, (Value.bool (decide (k < z.length)))), (19, (Value.bool (decide (((x : Int) < (0 : Int)) ∨ ((1024 : Int) ≤ (x : Int))))))] L' ∧ Sat w [] w') ?_ ?_
    · refine CW.region ?_
      refine RT.ev rfl rfl (Ev.move rfl) <| RT.ev rfl rfl (Ev.lss rfl rfl) <| RT.ev rfl rfl (Ev.move rfl) ?_
      by_cases hg_1 : (x : Int) < (0 : Int)
      · refine RT.no rfl rfl rfl (decide_eq_true hg_1) rfl ?_
        refine RT.no rfl rfl rfl (decide_eq_true hg_1) rfl ?_
        refine RT.ev rfl rfl (Ev.pickY rfl (decide_eq_true hg_1) rfl) ?_
        refine RT.nil ?_
        exact ⟨⟨rfl, rfl, rfl, rfl, rfl, rfl, congrArg some (congrArg Value.bool (by simp [hg_1])), trivial⟩, hs_1⟩
      · refine RT.yes rfl rfl rfl (decide_eq_false hg_1) ?_
        refine RT.ev rfl rfl (Ev.move rfl) ?_
        refine RT.yes rfl rfl rfl (decide_eq_false hg_1) ?_
        refine RT.ev rfl rfl (Ev.geq rfl rfl) <| RT.ev rfl rfl (Ev.pickN rfl (decide_eq_false hg_1) rfl) ?_
        refine RT.nil ?_
        exact ⟨⟨rfl, rfl, rfl, rfl, rfl, rfl, congrArg some (congrArg Value.bool (by simp [hg_1])), trivial⟩, hs_1⟩
    · rintro L' w_2 ⟨hw_1, hs_2⟩
      refine CW.weaken _ hw_1 ?_
      refine CW.condD rfl (fun hc_2 => ?_) (fun hc_2 => ?_)
      · refine CW.seq ?_
        refine CW.region ?_
        refine RT.ev rfl rfl (Ev.assign rfl) ?_
        refine RT.nil ?_
        refine CW.ret ?_
        show PostK _ _ _ _ _ _
        refine post1 rfl rfl ?_
        exact ⟨rfl, hs_2⟩
      · refine CW.skip ?_
        refine CW.region ?_
        refine RT.ev rfl rfl (Ev.addI (b := 1) rfl rfl (by omega)) <| RT.ev rfl rfl (Ev.move rfl) ?_
        refine RT.nil ?_
        exact ⟨k + 1, ⟨rfl, rfl, rfl, rfl, trivial⟩, ⟨hs_2, by omega, all_take hgd hx (by simpa using hc_2)⟩, (show (z.length - (k + 1)) < (z.length - k) from by omega)⟩
  · refine CW.exit0 ?_
    refine CW.seq ?_
    obtain ⟨x, hx, hxb⟩ := hbad
    rw [show k = z.length by omega, List.take_length] at hgd
    exact absurd hxb (hgd x hx)

theorem rcheck_ok (v : Value) (l : List Nat) (w : World) (hv : RdL w v (encN .i64) l) (hl : OkN l) :
    CallsV Try.prog 57 [v] w fun r w' => r = .int .i64 ((0 : Nat) : Int) ∧ Sat w [] w' := by
  have hs0 := Sat.start w
  refine callsV_of Try.func57 rfl rfl ?_
  refine CW.seq ?_
  have hlen := hl.len
  refine CW.region ?_
  refine RT.ev rfl rfl (Ev.assign rfl) ?_
  refine RT.nil ?_
  refine CW.seq ?_
  refine CW.seq ?_
  refine CW.region ?_
  refine RT.ev rfl rfl (Ev.move rfl) <| RT.ev rfl rfl (Ev.lenL Try.underlying22 rfl (hv.ext hs0.ext)) <| RT.ev rfl rfl (Ev.gtrN (b := 4096) rfl rfl) ?_
  refine RT.nil ?_
  refine CW.condF rfl (decide_eq_false (by have := hl.len; omega)) ?_
  refine CW.skip ?_
  refine CW.seq ?_
  refine CW.seq ?_
  refine CW.region ?_
  refine RT.ev rfl rfl (Ev.move rfl) <| RT.ev rfl rfl (Ev.lenL Try.underlying22 rfl (hv.ext hs0.ext)) <| RT.ev rfl rfl (Ev.move rfl) ?_
  refine RT.nil ?_
  refine CW.block ?_
  refine CW.loop (α := Nat) (fun k => [(0, v), (8, v), (9, (Value.int .i64 ((l.length : Nat) : Int))), (10, (Value.int .i64 ((k : Nat) : Int)))]) (fun k w' => Sat w [] w' ∧ (k ≤ l.length)) (fun k => l.length - k) 0 ⟨rfl, rfl, rfl, rfl, trivial⟩ ⟨hs0, Nat.zero_le _⟩ ?_
  rintro k w_1 ⟨hs_1, hk⟩
  show CW _ _ _ _ [(0, v), (8, v), (9, (Value.int .i64 ((l.length : Nat) : Int))), (10, (Value.int .i64 ((k : Nat) : Int)))] _
  refine CW.seq ?_
  refine CW.region ?_
  refine RT.ev rfl rfl (Ev.lssN rfl rfl) ?_
  refine RT.nil ?_
  refine CW.seq ?_
  refine CW.condD rfl (fun hc_1 => ?_) (fun hc_1 => ?_)
  · refine CW.skip ?_
    refine CW.seq ?_
    refine CW.block ?_
    refine CW.seq ?_
    obtain ⟨x, hx⟩ : ∃ x, (l)[k]? = some x := ⟨_, List.getElem?_eq_getElem hc_1⟩
    refine CW.region ?_
    refine RT.ev rfl rfl (Ev.idxL (E := encN .i64) sl22 rfl rfl (hv.ext hs_1.ext) (by omega)) <| RT.ev rfl rfl (Ev.ldL (E := encN .i64) scal3 rfl (hv.ext hs_1.ext) hx (by decide) rfl) <| RT.ev rfl rfl (Ev.assign rfl) ?_
    refine RT.nil ?_
    refine CW.seq ?_
    refine CW.mid (fun L' w' => Weak [(0, v), (4, (Value.int .i64 ((x : Nat) : Int))), (8, v), (9, (Value.int .i64 ((l.length : Nat) : Int))), (10, (Value.int .i64 ((k : Nat) : Int))), (11, (Value.bool (decide (k < l.length)))), (19, (Value.bool (decide ((x < 0) ∨ (1024 ≤ x)))))] L' ∧ Sat w [] w') ?_ ?_
    · refine CW.region ?_
      refine RT.ev rfl rfl (Ev.move rfl) <| RT.ev rfl rfl (Ev.lssN (b := 0) rfl rfl) <| RT.ev rfl rfl (Ev.move rfl) ?_
      by_cases hg_1 : x < 0
      · refine RT.no rfl rfl rfl (decide_eq_true hg_1) rfl ?_
        refine RT.no rfl rfl rfl (decide_eq_true hg_1) rfl ?_
        refine RT.ev rfl rfl (Ev.pickY rfl (decide_eq_true hg_1) rfl) ?_
        refine RT.nil ?_
        exact ⟨⟨rfl, rfl, rfl, rfl, rfl, rfl, congrArg some (congrArg Value.bool (by simp [hg_1])), trivial⟩, hs_1⟩
      · refine RT.yes rfl rfl rfl (decide_eq_false hg_1) ?_
        refine RT.ev rfl rfl (Ev.move rfl) ?_
        refine RT.yes rfl rfl rfl (decide_eq_false hg_1) ?_
        refine RT.ev rfl rfl (Ev.geqN (b := 1024) rfl rfl) <| RT.ev rfl rfl (Ev.pickN rfl (decide_eq_false hg_1) rfl) ?_
        refine RT.nil ?_
        exact ⟨⟨rfl, rfl, rfl, rfl, rfl, rfl, congrArg some (congrArg Value.bool (by simp [hg_1])), trivial⟩, hs_1⟩
    · rintro L' w_2 ⟨hw_1, hs_2⟩
      refine CW.weaken _ hw_1 ?_
      refine CW.condF rfl (decide_eq_false (by have := hl.lt x (mem_of_get hx); omega)) ?_
      refine CW.skip ?_
      refine CW.region ?_
      refine RT.ev rfl rfl (Ev.addI (b := 1) rfl rfl (by omega)) <| RT.ev rfl rfl (Ev.move rfl) ?_
      refine RT.nil ?_
      exact ⟨k + 1, ⟨rfl, rfl, rfl, rfl, trivial⟩, ⟨hs_2, by omega⟩, (show (l.length - (k + 1)) < (l.length - k) from by omega)⟩
  · refine CW.exit0 ?_
    refine CW.seq ?_
    refine CW.region ?_
    refine RT.ev rfl rfl (Ev.assign rfl) ?_
    refine RT.nil ?_
    refine CW.ret ?_
    show PostK _ _ _ _ _ _
    refine post1 rfl rfl ?_
    exact ⟨rfl, hs_1⟩

theorem built_range (v : Value) (z : List Int) (w : World) (hv : RdL w v (encI .i64) z) (hz : z.length ≤ 4096) (hbad : ∃ x ∈ z, x < 0 ∨ 1024 ≤ x) :
    CallsV Try.prog 20 [v] w fun r w' => r = .tuple #[.pointer none, .bool true] ∧ Sat w [] w' := by
  have hs0 := Sat.start w
  refine callsV_of Try.func20 rfl rfl ?_
  refine CW.seq ?_
  refine CW.region ?_
  refine RT.ev rfl rfl (Ev.assign rfl) <| RT.ev rfl rfl (Ev.assign rfl) ?_
  refine RT.nil ?_
  refine CW.seq ?_
  refine CW.region ?_
  refine RT.ev rfl rfl (Ev.move rfl) ?_
  refine RT.eff rfl rfl (OpE.call ent24 rfl ((build_range _ (z) _ (hv.ext hs0.ext) (hz) (hbad)).mono fun r_1 w_1 h_1 => ?_))
  obtain ⟨rfl, hp_1⟩ := h_1
  have hs_1 : Sat w [] _ := hs0.adds hp_1
  refine RT.ev rfl rfl (Ev.move rfl) <| RT.ev rfl rfl (Ev.extract rfl rfl) <| RT.ev rfl rfl (Ev.extract rfl rfl) <| RT.ev rfl rfl (Ev.assign rfl) <| RT.ev rfl rfl (Ev.assign rfl) ?_
  refine RT.nil ?_
  refine CW.seq ?_
  refine CW.region ?_
  refine RT.ev rfl rfl (Ev.move rfl) ?_
  refine RT.eff rfl rfl (OpE.call ent57 rfl ((rcheck_range _ (z) _ (hv.ext hs_1.ext) (hz) (hbad)).mono fun r_2 w_2 h_2 => ?_))
  obtain ⟨rfl, hp_2⟩ := h_2
  have hs_2 : Sat w [] _ := hs_1.adds hp_2
  refine RT.ev rfl rfl (Ev.assign rfl) ?_
  refine RT.nil ?_
  refine CW.seq ?_
  refine CW.region ?_
  refine RT.ev rfl rfl (Ev.move rfl) <| RT.ev rfl rfl (Ev.move rfl) <| RT.ev rfl rfl (Ev.move rfl) <| RT.ev rfl rfl (Ev.eqlN (a := 8) (b := 8) rfl rfl) <| RT.ev rfl rfl (Ev.move rfl) ?_
  refine RT.yes rfl rfl rfl (rfl) ?_
  refine RT.ev rfl rfl (Ev.move rfl) ?_
  refine RT.yes rfl rfl rfl (rfl) ?_
  refine RT.ev rfl rfl (Ev.neqPt Try.underlying23 rfl rfl) ?_
  refine RT.yes rfl rfl rfl (rfl) ?_
  refine RT.ev rfl rfl (Ev.move rfl) ?_
  refine RT.yes rfl rfl rfl (rfl) ?_
  refine RT.ev rfl rfl (Ev.eqlN (a := 8) (b := 0) rfl rfl) ?_
  refine RT.yes rfl rfl rfl (rfl) ?_
  refine RT.ev rfl rfl (Ev.eqlB Try.underlying4 rfl rfl) <| RT.ev rfl rfl (Ev.pickY rfl (rfl) rfl) <| RT.ev rfl rfl (Ev.assign rfl) <| RT.ev rfl rfl (Ev.assign rfl) ?_
  refine RT.nil ?_
  refine CW.ret ?_
  show PostK _ _ _ _ _ _
  refine post2 rfl rfl rfl ?_
  exact ⟨rfl, hs_2⟩

theorem built_ok (v : Value) (l : List Nat) (w : World) (hv : RdL w v (encN .i64) l) (hl : OkN l) :
    CallsV Try.prog 20 [v] w fun r w' => ∃ g lv bv ps, r = .tuple #[.pointer (some ⟨g, 0, none⟩), .bool true] ∧ ptsOf ps = ptsK l ∧ Sat w [cObj g 79 [(Value.int .i64 ((l.length : Nat) : Int)), (Value.int .i64 (((kindN l) : Nat) : Int)), lv, bv, (Value.int .i64 ((0 : Nat) : Int)), (Value.slice none 0 0)], cL lv 3 (encN .i64) (lensK l), cL bv 124 (encPt) (ps), cParts (ps), cL (Value.slice none 0 0) 3 (encN .i64) ([])] w' := by
  have hs0 := Sat.start w
  refine callsV_of Try.func20 rfl rfl ?_
  refine CW.seq ?_
  refine CW.region ?_
  refine RT.ev rfl rfl (Ev.assign rfl) <| RT.ev rfl rfl (Ev.assign rfl) ?_
  refine RT.nil ?_
  refine CW.seq ?_
  refine CW.region ?_
  refine RT.ev rfl rfl (Ev.move rfl) ?_
  refine RT.eff rfl rfl (OpE.call ent24 rfl ((build_ok _ (l) _ (hv.ext hs0.ext) (hl)).mono fun r_1 w_1 h_1 => ?_))
  obtain ⟨g_1, lv_1, bv_1, ps_1, rfl, hps_1, hp_1⟩ := h_1
  have hs_1 : Sat w [cObj g_1 79 [(Value.int .i64 (((l).length : Nat) : Int)), (Value.int .i64 (((kindN l) : Nat) : Int)), lv_1, bv_1, (Value.int .i64 ((0 : Nat) : Int)), (Value.slice none 0 0)], cL lv_1 3 (encN .i64) (lensK l), cL bv_1 124 (encPt) (ps_1), cParts (ps_1), cL (Value.slice none 0 0) 3 (encN .i64) ([])] _ := hs0.adds hp_1
  refine RT.ev rfl rfl (Ev.move rfl) <| RT.ev rfl rfl (Ev.extract rfl rfl) <| RT.ev rfl rfl (Ev.extract rfl rfl) <| RT.ev rfl rfl (Ev.assign rfl) <| RT.ev rfl rfl (Ev.assign rfl) ?_
  refine RT.nil ?_
  refine CW.seq ?_
  refine CW.region ?_
  refine RT.ev rfl rfl (Ev.move rfl) ?_
  refine RT.eff rfl rfl (OpE.call ent57 rfl ((rcheck_ok _ (l) _ (hv.ext hs_1.ext) (hl)).mono fun r_2 w_2 h_2 => ?_))
  obtain ⟨rfl, hp_2⟩ := h_2
  have hs_2 : Sat w [cObj g_1 79 [(Value.int .i64 (((l).length : Nat) : Int)), (Value.int .i64 (((kindN l) : Nat) : Int)), lv_1, bv_1, (Value.int .i64 ((0 : Nat) : Int)), (Value.slice none 0 0)], cL lv_1 3 (encN .i64) (lensK l), cL bv_1 124 (encPt) (ps_1), cParts (ps_1), cL (Value.slice none 0 0) 3 (encN .i64) ([])] _ := hs_1.adds hp_2
  refine RT.ev rfl rfl (Ev.assign rfl) ?_
  refine RT.nil ?_
  refine CW.seq ?_
  refine CW.region ?_
  refine RT.ev rfl rfl (Ev.move rfl) <| RT.ev rfl rfl (Ev.move rfl) <| RT.ev rfl rfl (Ev.move rfl) <| RT.ev rfl rfl (Ev.eqlN (a := 0) (b := 0) rfl rfl) <| RT.ev rfl rfl (Ev.move rfl) ?_
  refine RT.yes rfl rfl rfl (rfl) ?_
  refine RT.ev rfl rfl (Ev.move rfl) ?_
  refine RT.yes rfl rfl rfl (rfl) ?_
  refine RT.ev rfl rfl (Ev.neqPt Try.underlying23 rfl rfl) ?_
  refine RT.yes rfl rfl rfl (rfl) ?_
  refine RT.ev rfl rfl (Ev.move rfl) ?_
  refine RT.yes rfl rfl rfl (rfl) ?_
  refine RT.ev rfl rfl (Ev.eqlN (a := 0) (b := 0) rfl rfl) ?_
  refine RT.yes rfl rfl rfl (rfl) ?_
  refine RT.ev rfl rfl (Ev.eqlB Try.underlying4 rfl rfl) <| RT.ev rfl rfl (Ev.pickY rfl (rfl) rfl) <| RT.ev rfl rfl (Ev.assign rfl) <| RT.ev rfl rfl (Ev.assign rfl) ?_
  refine RT.nil ?_
  refine CW.ret ?_
  show PostK _ _ _ _ _ _
  refine post2 rfl rfl rfl ?_
  have hs_3 : Sat w [cObj g_1 79 [(Value.int .i64 (((l).length : Nat) : Int)), (Value.int .i64 (((kindN l) : Nat) : Int)), lv_1, bv_1, (Value.int .i64 ((0 : Nat) : Int)), (Value.slice none 0 0)], cL lv_1 3 (encN .i64) (lensK l), cL bv_1 124 (encPt) (ps_1), cParts (ps_1), cL (Value.slice none 0 0) 3 (encN .i64) ([])] w_2 := hs_2.sub ((.cons_cons _ (.cons_cons _ (.cons_cons _ (.cons_cons _ (.cons_cons _ .slnil))))))
  exact ⟨_, _, _, ps_1, rfl, hps_1, hs_3⟩

theorem awake_ok (w : World) :
    CallsV Try.prog 22 [] w fun r w' => r = .bool true ∧ Sat w [] w' := by
  have hs0 := Sat.start w
  refine callsV_of Try.func22 rfl rfl ?_
  refine CW.seq ?_
  refine CW.region ?_
  refine RT.ev rfl rfl (Ev.assign rfl) ?_
  refine RT.nil ?_
  refine CW.seq ?_
  refine CW.region ?_
  refine RT.eff rfl rfl (OpE.litN (encN .i64) [5, 5, 5] sl22 rfl ⟨rfl, rfl, rfl, trivial⟩ rfl rfl rfl rfl (by decide) (by decide) hs0 fun v_1 w_1 hs_1 hch_1 => ?_)
  have hs_1d : Sat w [cL v_1 3 (encN .i64) ([5, 5, 5])] _ := hs_1
  refine RT.eff rfl rfl (OpE.call ent24 rfl ((build_ok _ ([5, 5, 5]) _ (hs_1d.rdL 0 rfl) (ok555)).mono fun r_1 w_2 h_1 => ?_))
  obtain ⟨g_1, lv_1, bv_1, ps_1, rfl, hps_1, hp_1⟩ := h_1
  have hs_2 : Sat w [cL v_1 3 (encN .i64) ([5, 5, 5]), cObj g_1 79 [(Value.int .i64 (((([5, 5, 5])).length : Nat) : Int)), (Value.int .i64 (((kindN ([5, 5, 5])) : Nat) : Int)), lv_1, bv_1, (Value.int .i64 ((0 : Nat) : Int)), (Value.slice none 0 0)], cL lv_1 3 (encN .i64) (lensK ([5, 5, 5])), cL bv_1 124 (encPt) (ps_1), cParts (ps_1), cL (Value.slice none 0 0) 3 (encN .i64) ([])] _ := hs_1d.adds hp_1
  refine RT.ev rfl rfl (Ev.move rfl) <| RT.ev rfl rfl (Ev.extract rfl rfl) <| RT.ev rfl rfl (Ev.extract rfl rfl) <| RT.ev rfl rfl (Ev.assign rfl) <| RT.ev rfl rfl (Ev.assign rfl) ?_
  refine RT.nil ?_
  refine CW.seq ?_
  refine CW.region ?_
  refine RT.ev rfl rfl (Ev.move rfl) <| RT.ev rfl rfl (Ev.eqlN (a := 0) (b := 0) rfl rfl) <| RT.ev rfl rfl (Ev.move rfl) ?_
  refine RT.yes rfl rfl rfl (rfl) ?_
  refine RT.ev rfl rfl (Ev.move rfl) ?_
  refine RT.yes rfl rfl rfl (rfl) ?_
  refine RT.ev rfl rfl (Ev.neqPt Try.underlying23 rfl rfl) <| RT.ev rfl rfl (Ev.pickY rfl (rfl) rfl) <| RT.ev rfl rfl (Ev.move rfl) ?_
  refine RT.yes rfl rfl rfl (rfl) ?_
  refine RT.ev rfl rfl (Ev.move rfl) ?_
  refine RT.yes rfl rfl rfl (rfl) ?_
  refine RT.eff rfl rfl (OpE.call ent29 rfl ((skind_ok _ ((kindN ([5, 5, 5]))) _ (hs_2.cell (i := 1) (j := 1) rfl rfl)).mono fun r_2 w_3 h_2 => ?_))
  obtain ⟨rfl, hp_2⟩ := h_2
  have hs_3 : Sat w [cL v_1 3 (encN .i64) ([5, 5, 5]), cObj g_1 79 [(Value.int .i64 (((([5, 5, 5])).length : Nat) : Int)), (Value.int .i64 (((kindN ([5, 5, 5])) : Nat) : Int)), lv_1, bv_1, (Value.int .i64 ((0 : Nat) : Int)), (Value.slice none 0 0)], cL lv_1 3 (encN .i64) (lensK ([5, 5, 5])), cL bv_1 124 (encPt) (ps_1), cParts (ps_1), cL (Value.slice none 0 0) 3 (encN .i64) ([])] _ := hs_2.adds hp_2
  refine RT.yes rfl rfl rfl (rfl) ?_
  refine RT.ev rfl rfl (Ev.eqlN (b := 0) rfl rfl) <| RT.ev rfl rfl (Ev.pickY rfl (rfl) rfl) <| RT.ev rfl rfl (Ev.move rfl) ?_
  refine RT.yes rfl rfl rfl (decide_eq_true aw_kind) ?_
  refine RT.ev rfl rfl (Ev.move rfl) ?_
  refine RT.yes rfl rfl rfl (decide_eq_true aw_kind) ?_
  refine RT.eff rfl rfl (OpE.call ent27 rfl ((sencode_ok g_1 ((([5, 5, 5])).length) (kindN ([5, 5, 5])) lv_1 bv_1 (lensK ([5, 5, 5])) ps_1 _ (hs_3.cell (i := 1) (j := 0) rfl rfl) (hs_3.cell (i := 1) (j := 1) rfl rfl) (hs_3.cell (i := 1) (j := 2) rfl rfl) (hs_3.cell (i := 1) (j := 3) rfl rfl) (hs_3.rdL 2 rfl) (hs_3.rdL 3 rfl) (hs_3.rdParts 4 rfl) (by decide) (kindN_le _) (lensK_len ok555) ((ptsK_b hps_1 ok555).1) ((ptsK_b hps_1 ok555).2) (by rw [hps_1]; exact ptsK_lt _)).mono fun r_3 w_4 h_3 => ?_))
  have hp_3 := h_3
  have hs_4 : Sat w [cL v_1 3 (encN .i64) ([5, 5, 5]), cObj g_1 79 [(Value.int .i64 (((([5, 5, 5])).length : Nat) : Int)), (Value.int .i64 (((kindN ([5, 5, 5])) : Nat) : Int)), lv_1, bv_1, (Value.int .i64 ((0 : Nat) : Int)), (Value.slice none 0 0)], cL lv_1 3 (encN .i64) (lensK ([5, 5, 5])), cL bv_1 124 (encPt) (ps_1), cParts (ps_1), cL (Value.slice none 0 0) 3 (encN .i64) ([]), cL r_3 5 (encN .u8) (sealN (payl ((([5, 5, 5])).length) (kindN ([5, 5, 5])) (lensK ([5, 5, 5])) (ptsOf ps_1)))] _ := hs_3.adds hp_3
  refine RT.yes rfl rfl rfl (decide_eq_true aw_kind) ?_
  refine RT.ev rfl rfl (Ev.lenL Try.underlying40 rfl (hs_4.rdL 6 rfl)) ?_
  refine RT.yes rfl rfl rfl (decide_eq_true aw_kind) ?_
  refine RT.ev rfl rfl (Ev.eqlN (b := 12) rfl rfl) <| RT.ev rfl rfl (Ev.pickY rfl (decide_eq_true aw_kind) rfl) <| RT.ev rfl rfl (Ev.move rfl) ?_
  refine RT.yes rfl rfl rfl (decide_eq_true (by rw [hps_1, aw_seal]; rfl)) ?_
  refine RT.ev rfl rfl (Ev.move rfl) ?_
  refine RT.yes rfl rfl rfl (decide_eq_true (by rw [hps_1, aw_seal]; rfl)) ?_
  refine RT.eff rfl rfl (OpE.call ent27 rfl ((sencode_ok g_1 ((([5, 5, 5])).length) (kindN ([5, 5, 5])) lv_1 bv_1 (lensK ([5, 5, 5])) ps_1 _ (hs_4.cell (i := 1) (j := 0) rfl rfl) (hs_4.cell (i := 1) (j := 1) rfl rfl) (hs_4.cell (i := 1) (j := 2) rfl rfl) (hs_4.cell (i := 1) (j := 3) rfl rfl) (hs_4.rdL 2 rfl) (hs_4.rdL 3 rfl) (hs_4.rdParts 4 rfl) (by decide) (kindN_le _) (lensK_len ok555) ((ptsK_b hps_1 ok555).1) ((ptsK_b hps_1 ok555).2) (by rw [hps_1]; exact ptsK_lt _)).mono fun r_4 w_5 h_4 => ?_))
  have hp_4 := h_4
  have hs_5 : Sat w [cL v_1 3 (encN .i64) ([5, 5, 5]), cObj g_1 79 [(Value.int .i64 (((([5, 5, 5])).length : Nat) : Int)), (Value.int .i64 (((kindN ([5, 5, 5])) : Nat) : Int)), lv_1, bv_1, (Value.int .i64 ((0 : Nat) : Int)), (Value.slice none 0 0)], cL lv_1 3 (encN .i64) (lensK ([5, 5, 5])), cL bv_1 124 (encPt) (ps_1), cParts (ps_1), cL (Value.slice none 0 0) 3 (encN .i64) ([]), cL r_3 5 (encN .u8) (sealN (payl ((([5, 5, 5])).length) (kindN ([5, 5, 5])) (lensK ([5, 5, 5])) (ptsOf ps_1))), cL r_4 5 (encN .u8) (sealN (payl ((([5, 5, 5])).length) (kindN ([5, 5, 5])) (lensK ([5, 5, 5])) (ptsOf ps_1)))] _ := hs_4.adds hp_4
  refine RT.yes rfl rfl rfl (decide_eq_true (by rw [hps_1, aw_seal]; rfl)) ?_
  refine RT.ev rfl rfl (Ev.sliceL (E := encN .u8) (a := 0) (c := 8) sl40 rfl (hs_5.rdL 7 rfl) rfl ⟨_, rfl⟩ (by omega) (by rw [hps_1, aw_seal]; decide)) ?_
  refine RT.yes rfl rfl rfl (decide_eq_true (by rw [hps_1, aw_seal]; rfl)) ?_
  refine RT.ev rfl rfl (Ev.bytesStr Try.underlying40 Try.underlying9 Try.underlying5 rfl (((hs_5.rdL 7 rfl)).sub (a := 0) (b := 8) (by omega) (by rw [hps_1, aw_seal]; decide))) ?_
  refine RT.yes rfl rfl rfl (decide_eq_true (by rw [hps_1, aw_seal]; rfl)) ?_
  refine RT.ev rfl rfl (Ev.strEql rfl rfl) <| RT.ev rfl rfl (Ev.pickY rfl (decide_eq_true (by rw [hps_1, aw_seal]; rfl)) rfl) <| RT.ev rfl rfl (Ev.assign rfl) ?_
  refine RT.nil ?_
  refine CW.ret ?_
  show PostK _ _ _ _ _ _
  refine post1 rfl rfl ?_
  have hs_6 : Sat w [] w_5 := hs_5.sub ((.cons _ (.cons _ (.cons _ (.cons _ (.cons _ (.cons _ (.cons _ (.cons _ .slnil)))))))))
  exact ⟨congrArg Value.bool (decide_eq_true (by rw [hps_1, aw_seal]; rfl)), hs_6⟩

end Go.Proofs.Ytfhbflhnelbkfaa
