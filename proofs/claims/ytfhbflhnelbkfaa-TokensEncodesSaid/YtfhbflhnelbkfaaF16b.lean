/- The walks of the functions of F16b, printed by our own program (kwgen.py) out of our descriptions (base.py). -/
import Derived.Test.YtfhbflhnelbkfaaF16
import Derived.Test.YtfhbflhnelbkfaaTab
namespace Go.Proofs.Ytfhbflhnelbkfaa
open Go.RowKit Go.Kw
set_option maxRecDepth 100000
set_option linter.unusedVariables false
set_option linter.unusedSimpArgs false
theorem build_limit (v : Value) (z : List Int) (w : World) (hv : RdL w v (encI .i64) z) (hz : 4096 < z.length) :
    CallsV Try.prog 24 [v] w fun r w' => r = .tuple #[.pointer none, .int .i64 2] ∧ Sat w [] w' := by
  have hs0 := Sat.start w
  refine callsV_of Try.func24 rfl rfl ?_
  refine CW.seq ?_
  refine CW.region ?_
  refine RT.ev rfl rfl (Ev.assign rfl) <| RT.ev rfl rfl (Ev.assign rfl) ?_
  refine RT.nil ?_
  refine CW.seq ?_
  refine CW.seq ?_
  refine CW.region ?_
  refine RT.ev rfl rfl (Ev.move rfl) <| RT.ev rfl rfl (Ev.lenL Try.underlying22 rfl (hv.ext hs0.ext)) <| RT.ev rfl rfl (Ev.gtrN (b := 4096) rfl rfl) ?_
  refine RT.nil ?_
  refine CW.condT rfl (decide_eq_true hz) ?_
  refine CW.seq ?_
  refine CW.region ?_
  refine RT.ev rfl rfl (Ev.assign rfl) <| RT.ev rfl rfl (Ev.assign rfl) ?_
  refine RT.nil ?_
  refine CW.ret ?_
  show PostK _ _ _ _ _ _
  refine post2 rfl rfl rfl ?_
  exact ⟨rfl, hs0⟩

theorem build_range (v : Value) (z : List Int) (w : World) (hv : RdL w v (encI .i64) z) (hz : z.length ≤ 4096) (hbad : ∃ x ∈ z, x < 0 ∨ 1024 ≤ x) :
    CallsV Try.prog 24 [v] w fun r w' => r = .tuple #[.pointer none, .int .i64 8] ∧ Sat w [] w' := by
  have hs0 := Sat.start w
  refine callsV_of Try.func24 rfl rfl ?_
  refine CW.seq ?_
  refine CW.region ?_
  refine RT.ev rfl rfl (Ev.assign rfl) <| RT.ev rfl rfl (Ev.assign rfl) ?_
  refine RT.nil ?_
  refine CW.seq ?_
  refine CW.seq ?_
  refine CW.region ?_
  refine RT.ev rfl rfl (Ev.move rfl) <| RT.ev rfl rfl (Ev.lenL Try.underlying22 rfl (hv.ext hs0.ext)) <| RT.ev rfl rfl (Ev.gtrN (b := 4096) rfl rfl) ?_
  refine RT.nil ?_
  refine CW.condF rfl (decide_eq_false (by omega)) ?_
  refine CW.skip ?_
  refine CW.seq ?_
  refine CW.seq ?_
  refine CW.region ?_
  refine RT.ev rfl rfl (Ev.move rfl) <| RT.ev rfl rfl (Ev.lenL Try.underlying22 rfl (hv.ext hs0.ext)) <| RT.ev rfl rfl (Ev.move rfl) ?_
  refine RT.nil ?_
  refine CW.block ?_
  refine CW.loop (α := Nat) (fun k => [(0, v), (11, v), (12, (Value.int .i64 ((z.length : Nat) : Int))), (13, (Value.int .i64 ((k : Nat) : Int)))]) (fun k w' => Sat w [] w' ∧ (k ≤ z.length) ∧ (∀ x ∈ z.take k, ¬ (x < 0 ∨ 1024 ≤ x))) (fun k => z.length - k) 0 ⟨rfl, rfl, rfl, rfl, trivial⟩ ⟨hs0, Nat.zero_le _, by simp⟩ ?_
  rintro k w_1 ⟨hs_1, hk, hgd⟩
  show CW _ _ _ _ [(0, v), (11, v), (12, (Value.int .i64 ((z.length : Nat) : Int))), (13, (Value.int .i64 ((k : Nat) : Int)))] _
  refine CW.seq ?_
  refine CW.region ?_
  refine RT.ev rfl rfl (Ev.lssN rfl rfl) ?_
  refine RT.nil ?_
  refine CW.seq ?_
  refine CW.condD rfl (fun hc_1 => ?_) (fun hc_1 => ?_)
  · refine CW.skip ?_
    refine CW.seq ?_
    refine CW.block ?_
    refine CW.seq ?_
    obtain ⟨x, hx⟩ : ∃ x, (z)[k]? = some x := ⟨_, List.getElem?_eq_getElem hc_1⟩
    refine CW.region ?_
    refine RT.ev rfl rfl (Ev.idxL (E := encI .i64) sl22 rfl rfl (hv.ext hs_1.ext) (by omega)) <| RT.ev rfl rfl (Ev.ldL (E := encI .i64) scal3 rfl (hv.ext hs_1.ext) hx (by decide) rfl) <| RT.ev rfl rfl (Ev.assign rfl) ?_
    refine RT.nil ?_
    refine CW.seq ?_
    refine CW.mid (fun L' w' => Weak [(0, v), (5, (Value.int .i64 (x))), (11, v), (12, (Value.int .i64 ((z.length : Nat) : Int))), (13, (Value.int .i64 ((k : Nat) : Int))), (14, (Value.bool (decide (k < z.length)))), (22, (Value.bool (decide (((x : Int) < (0 : Int)) ∨ ((1024 : Int) ≤ (x : Int))))))] L' ∧ Sat w [] w') ?_ ?_
    · refine CW.region ?_
      refine RT.ev rfl rfl (Ev.move rfl) <| RT.ev rfl rfl (Ev.lss rfl rfl) <| RT.ev rfl rfl (Ev.move rfl) ?_
      by_cases hg_1 : (x : Int) < (0 : Int)
      · refine RT.no rfl rfl rfl (decide_eq_true hg_1) rfl ?_
        refine RT.no rfl rfl rfl (decide_eq_true hg_1) rfl ?_
        refine RT.ev rfl rfl (Ev.pickY rfl (decide_eq_true hg_1) rfl) ?_
        refine RT.nil ?_
        exact ⟨⟨rfl, rfl, rfl, rfl, rfl, rfl, congrArg some (congrArg Value.bool (by simp [hg_1])), trivial⟩, hs_1⟩
      · refine RT.yes rfl rfl rfl (decide_eq_false hg_1) ?_
        refine RT.ev rfl rfl (Ev.move rfl) ?_
        refine RT.yes rfl rfl rfl (decide_eq_false hg_1) ?_
        refine RT.ev rfl rfl (Ev.geq rfl rfl) <| RT.ev rfl rfl (Ev.pickN rfl (decide_eq_false hg_1) rfl) ?_
        refine RT.nil ?_
        exact ⟨⟨rfl, rfl, rfl, rfl, rfl, rfl, congrArg some (congrArg Value.bool (by simp [hg_1])), trivial⟩, hs_1⟩
    · rintro L' w_2 ⟨hw_1, hs_2⟩
      refine CW.weaken _ hw_1 ?_
      refine CW.condD rfl (fun hc_2 => ?_) (fun hc_2 => ?_)
      · refine CW.seq ?_
        refine CW.region ?_
        refine RT.ev rfl rfl (Ev.assign rfl) <| RT.ev rfl rfl (Ev.assign rfl) ?_
        refine RT.nil ?_
        refine CW.ret ?_
        show PostK _ _ _ _ _ _
        refine post2 rfl rfl rfl ?_
        exact ⟨rfl, hs_2⟩
      · refine CW.skip ?_
        refine CW.region ?_
        refine RT.ev rfl rfl (Ev.addI (b := 1) rfl rfl (by omega)) <| RT.ev rfl rfl (Ev.move rfl) ?_
        refine RT.nil ?_
        exact ⟨k + 1, ⟨rfl, rfl, rfl, rfl, trivial⟩, ⟨hs_2, by omega, all_take hgd hx (by simpa using hc_2)⟩, (show (z.length - (k + 1)) < (z.length - k) from by omega)⟩
  · refine CW.exit0 ?_
    refine CW.seq ?_
    obtain ⟨x, hx, hxb⟩ := hbad
    rw [show k = z.length by omega, List.take_length] at hgd
    exact absurd hxb (hgd x hx)

theorem build_ok (v : Value) (l : List Nat) (w : World) (hv : RdL w v (encN .i64) l) (hl : OkN l) :
    CallsV Try.prog 24 [v] w fun r w' => ∃ g lv bv ps, r = .tuple #[.pointer (some ⟨g, 0, none⟩), .int .i64 0] ∧ ptsOf ps = ptsK l ∧ Sat w [cObj g 79 [(Value.int .i64 ((l.length : Nat) : Int)), (Value.int .i64 (((kindN l) : Nat) : Int)), lv, bv, (Value.int .i64 ((0 : Nat) : Int)), (Value.slice none 0 0)], cL lv 3 (encN .i64) (lensK l), cL bv 124 (encPt) (ps), cParts (ps), cL (Value.slice none 0 0) 3 (encN .i64) ([])] w' := by
  have hs0 := Sat.start w
  refine callsV_of Try.func24 rfl rfl ?_
  refine CW.seq ?_
  have hlen := hl.len
  refine CW.region ?_
  refine RT.ev rfl rfl (Ev.assign rfl) <| RT.ev rfl rfl (Ev.assign rfl) ?_
  refine RT.nil ?_
  refine CW.seq ?_
  refine CW.seq ?_
  refine CW.region ?_
  refine RT.ev rfl rfl (Ev.move rfl) <| RT.ev rfl rfl (Ev.lenL Try.underlying22 rfl (hv.ext hs0.ext)) <| RT.ev rfl rfl (Ev.gtrN (b := 4096) rfl rfl) ?_
  refine RT.nil ?_
  refine CW.condF rfl (decide_eq_false (by omega)) ?_
  refine CW.skip ?_
  refine CW.seq ?_
  refine CW.seq ?_
  refine CW.region ?_
  refine RT.ev rfl rfl (Ev.move rfl) <| RT.ev rfl rfl (Ev.lenL Try.underlying22 rfl (hv.ext hs0.ext)) <| RT.ev rfl rfl (Ev.move rfl) ?_
  refine RT.nil ?_
  refine CW.block ?_
  refine CW.loop (α := Nat) (fun k => [(0, v), (11, v), (12, (Value.int .i64 ((l.length : Nat) : Int))), (13, (Value.int .i64 ((k : Nat) : Int)))]) (fun k w' => Sat w [] w' ∧ (k ≤ l.length)) (fun k => l.length - k) 0 ⟨rfl, rfl, rfl, rfl, trivial⟩ ⟨hs0, Nat.zero_le _⟩ ?_
  rintro k w_1 ⟨hs_1, hk⟩
  show CW _ _ _ _ [(0, v), (11, v), (12, (Value.int .i64 ((l.length : Nat) : Int))), (13, (Value.int .i64 ((k : Nat) : Int)))] _
  refine CW.seq ?_
  refine CW.region ?_
  refine RT.ev rfl rfl (Ev.lssN rfl rfl) ?_
  refine RT.nil ?_
  refine CW.seq ?_
  refine CW.condD rfl (fun hc_1 => ?_) (fun hc_1 => ?_)
  · refine CW.skip ?_
    refine CW.seq ?_
    refine CW.block ?_
    refine CW.seq ?_
    obtain ⟨x, hx⟩ : ∃ x, (l)[k]? = some x := ⟨_, List.getElem?_eq_getElem hc_1⟩
    refine CW.region ?_
    refine RT.ev rfl rfl (Ev.idxL (E := encN .i64) sl22 rfl rfl (hv.ext hs_1.ext) (by omega)) <| RT.ev rfl rfl (Ev.ldL (E := encN .i64) scal3 rfl (hv.ext hs_1.ext) hx (by decide) rfl) <| RT.ev rfl rfl (Ev.assign rfl) ?_
    refine RT.nil ?_
    refine CW.seq ?_
    refine CW.mid (fun L' w' => Weak [(0, v), (5, (Value.int .i64 ((x : Nat) : Int))), (11, v), (12, (Value.int .i64 ((l.length : Nat) : Int))), (13, (Value.int .i64 ((k : Nat) : Int))), (14, (Value.bool (decide (k < l.length)))), (22, (Value.bool (decide ((x < 0) ∨ (1024 ≤ x)))))] L' ∧ Sat w [] w') ?_ ?_
    · refine CW.region ?_
      refine RT.ev rfl rfl (Ev.move rfl) <| RT.ev rfl rfl (Ev.lssN (b := 0) rfl rfl) <| RT.ev rfl rfl (Ev.move rfl) ?_
      by_cases hg_1 : x < 0
      · refine RT.no rfl rfl rfl (decide_eq_true hg_1) rfl ?_
        refine RT.no rfl rfl rfl (decide_eq_true hg_1) rfl ?_
        refine RT.ev rfl rfl (Ev.pickY rfl (decide_eq_true hg_1) rfl) ?_
        refine RT.nil ?_
        exact ⟨⟨rfl, rfl, rfl, rfl, rfl, rfl, congrArg some (congrArg Value.bool (by simp [hg_1])), trivial⟩, hs_1⟩
      · refine RT.yes rfl rfl rfl (decide_eq_false hg_1) ?_
        refine RT.ev rfl rfl (Ev.move rfl) ?_
        refine RT.yes rfl rfl rfl (decide_eq_false hg_1) ?_
        refine RT.ev rfl rfl (Ev.geqN (b := 1024) rfl rfl) <| RT.ev rfl rfl (Ev.pickN rfl (decide_eq_false hg_1) rfl) ?_
        refine RT.nil ?_
        exact ⟨⟨rfl, rfl, rfl, rfl, rfl, rfl, congrArg some (congrArg Value.bool (by simp [hg_1])), trivial⟩, hs_1⟩
    · rintro L' w_2 ⟨hw_1, hs_2⟩
      refine CW.weaken _ hw_1 ?_
      refine CW.condF rfl (decide_eq_false (by have := hl.lt x (mem_of_get hx); omega)) ?_
      refine CW.skip ?_
      refine CW.region ?_
      refine RT.ev rfl rfl (Ev.addI (b := 1) rfl rfl (by omega)) <| RT.ev rfl rfl (Ev.move rfl) ?_
      refine RT.nil ?_
      exact ⟨k + 1, ⟨rfl, rfl, rfl, rfl, trivial⟩, ⟨hs_2, by omega⟩, (show (l.length - (k + 1)) < (l.length - k) from by omega)⟩
  · refine CW.exit0 ?_
    refine CW.seq ?_
    refine CW.region ?_
    refine RT.ev rfl rfl (Ev.move rfl) ?_
    refine RT.eff rfl rfl (OpE.call ent59 rfl ((packed_ok _ (l) _ (hv.ext hs_1.ext) (hl.len) (hl.lt)).mono fun r_1 w_3 h_1 => ?_))
    obtain ⟨g_1, lv_1, bv_1, ps_1, rfl, hps_1, hp_1⟩ := h_1
    have hs_3 : Sat w [cObj g_1 79 [(Value.int .i64 (((l).length : Nat) : Int)), (Value.int .i64 ((0 : Nat) : Int)), lv_1, bv_1, (Value.int .i64 ((0 : Nat) : Int)), (Value.slice none 0 0)], cL lv_1 3 (encN .i64) ([]), cL bv_1 124 (encPt) (ps_1), cParts (ps_1), cL (Value.slice none 0 0) 3 (encN .i64) ([])] _ := hs_1.adds hp_1
    refine RT.ev rfl rfl (Ev.move rfl) ?_
    refine RT.eff rfl rfl (OpE.call ent60 rfl ((coded_ok _ (l) _ (hv.ext hs_3.ext) (hl.len) (hl.lt)).mono fun r_2 w_4 h_2 => ?_))
    obtain ⟨g_2, lv_2, bv_2, ps_2, rfl, hps_2, hp_2⟩ := h_2
    have hs_4 : Sat w [cObj g_1 79 [(Value.int .i64 (((l).length : Nat) : Int)), (Value.int .i64 ((0 : Nat) : Int)), lv_1, bv_1, (Value.int .i64 ((0 : Nat) : Int)), (Value.slice none 0 0)], cL lv_1 3 (encN .i64) ([]), cL bv_1 124 (encPt) (ps_1), cParts (ps_1), cL (Value.slice none 0 0) 3 (encN .i64) ([]), cObj g_2 79 [(Value.int .i64 (((l).length : Nat) : Int)), (Value.int .i64 ((1 : Nat) : Int)), lv_2, bv_2, (Value.int .i64 ((0 : Nat) : Int)), (Value.slice none 0 0)], cL lv_2 3 (encN .i64) (symL l), cL bv_2 124 (encPt) (ps_2), cParts (ps_2), cL (Value.slice none 0 0) 3 (encN .i64) ([])] _ := hs_3.adds hp_2
    refine RT.ev rfl rfl (Ev.assign rfl) <| RT.ev rfl rfl (Ev.assign rfl) ?_
    refine RT.nil ?_
    refine CW.seq ?_
    refine CW.seq ?_
    have hb0 := pk0_b hps_1 hl.len
    have hb1 := pk1_b hps_2 hl.len hl.mx
    refine CW.region ?_
    refine RT.ev rfl rfl (Ev.move rfl) ?_
    refine RT.eff rfl rfl (OpE.call ent61 rfl ((payload_ok g_2 ((l).length) 1 lv_2 bv_2 (symL l) ps_2 _ (hs_4.cell (i := 5) (j := 0) rfl rfl) (hs_4.cell (i := 5) (j := 1) rfl rfl) (hs_4.cell (i := 5) (j := 2) rfl rfl) (hs_4.cell (i := 5) (j := 3) rfl rfl) (hs_4.rdL 6 rfl) (hs_4.rdL 7 rfl) (hs_4.rdParts 8 rfl) (hl.len) (Nat.le_refl _) (by rw [symL_length]; exact hl.mx) (hb1.1) (hb1.2)).mono fun r_3 w_5 h_3 => ?_))
    have hp_3 := h_3
    have hs_5 : Sat w [cObj g_1 79 [(Value.int .i64 (((l).length : Nat) : Int)), (Value.int .i64 ((0 : Nat) : Int)), lv_1, bv_1, (Value.int .i64 ((0 : Nat) : Int)), (Value.slice none 0 0)], cL lv_1 3 (encN .i64) ([]), cL bv_1 124 (encPt) (ps_1), cParts (ps_1), cL (Value.slice none 0 0) 3 (encN .i64) ([]), cObj g_2 79 [(Value.int .i64 (((l).length : Nat) : Int)), (Value.int .i64 ((1 : Nat) : Int)), lv_2, bv_2, (Value.int .i64 ((0 : Nat) : Int)), (Value.slice none 0 0)], cL lv_2 3 (encN .i64) (symL l), cL bv_2 124 (encPt) (ps_2), cParts (ps_2), cL (Value.slice none 0 0) 3 (encN .i64) ([]), cL r_3 5 (encN .u8) (payl ((l).length) 1 (symL l) (ptsOf ps_2))] _ := hs_4.adds hp_3
    refine RT.ev rfl rfl (Ev.lenL Try.underlying40 rfl (hs_5.rdL 10 rfl)) <| RT.ev rfl rfl (Ev.move rfl) ?_
    refine RT.eff rfl rfl (OpE.call ent61 rfl ((payload_ok g_1 ((l).length) 0 lv_1 bv_1 ([]) ps_1 _ (hs_5.cell (i := 0) (j := 0) rfl rfl) (hs_5.cell (i := 0) (j := 1) rfl rfl) (hs_5.cell (i := 0) (j := 2) rfl rfl) (hs_5.cell (i := 0) (j := 3) rfl rfl) (hs_5.rdL 1 rfl) (hs_5.rdL 2 rfl) (hs_5.rdParts 3 rfl) (hl.len) (by omega) (by simp) (hb0.1) (hb0.2)).mono fun r_4 w_6 h_4 => ?_))
    have hp_4 := h_4
    have hs_6 : Sat w [cObj g_1 79 [(Value.int .i64 (((l).length : Nat) : Int)), (Value.int .i64 ((0 : Nat) : Int)), lv_1, bv_1, (Value.int .i64 ((0 : Nat) : Int)), (Value.slice none 0 0)], cL lv_1 3 (encN .i64) ([]), cL bv_1 124 (encPt) (ps_1), cParts (ps_1), cL (Value.slice none 0 0) 3 (encN .i64) ([]), cObj g_2 79 [(Value.int .i64 (((l).length : Nat) : Int)), (Value.int .i64 ((1 : Nat) : Int)), lv_2, bv_2, (Value.int .i64 ((0 : Nat) : Int)), (Value.slice none 0 0)], cL lv_2 3 (encN .i64) (symL l), cL bv_2 124 (encPt) (ps_2), cParts (ps_2), cL (Value.slice none 0 0) 3 (encN .i64) ([]), cL r_3 5 (encN .u8) (payl ((l).length) 1 (symL l) (ptsOf ps_2)), cL r_4 5 (encN .u8) (payl ((l).length) 0 ([]) (ptsOf ps_1))] _ := hs_5.adds hp_4
    refine RT.ev rfl rfl (Ev.lenL Try.underlying40 rfl (hs_6.rdL 11 rfl)) <| RT.ev rfl rfl (Ev.lssN rfl rfl) ?_
    refine RT.nil ?_
    refine CW.condD rfl (fun hc_2 => ?_) (fun hc_2 => ?_)
    · refine CW.seq ?_
      refine CW.region ?_
      refine RT.ev rfl rfl (Ev.move rfl) <| RT.ev rfl rfl (Ev.assign rfl) <| RT.ev rfl rfl (Ev.assign rfl) ?_
      refine RT.nil ?_
      refine CW.ret ?_
      show PostK _ _ _ _ _ _
      refine post2 rfl rfl rfl ?_
      have hs_7 : Sat w [cObj g_2 79 [(Value.int .i64 (((l).length : Nat) : Int)), (Value.int .i64 ((1 : Nat) : Int)), lv_2, bv_2, (Value.int .i64 ((0 : Nat) : Int)), (Value.slice none 0 0)], cL lv_2 3 (encN .i64) (symL l), cL bv_2 124 (encPt) (ps_2), cParts (ps_2), cL (Value.slice none 0 0) 3 (encN .i64) ([])] w_6 := hs_6.sub ((.cons _ (.cons _ (.cons _ (.cons _ (.cons _ (.cons_cons _ (.cons_cons _ (.cons_cons _ (.cons_cons _ (.cons_cons _ (.cons _ (.cons _ .slnil)))))))))))))
      obtain ⟨hk1, hk2, hk3⟩ := kindN_one (l := l) (by have hc := hc_2; rw [hps_1, hps_2] at hc; simpa [plK] using hc)
      refine ⟨g_2, lv_2, bv_2, ps_2, rfl, by rw [hps_2, hk3], ?_⟩
      rw [hk1, hk2]
      exact hs_7
    · refine CW.skip ?_
      refine CW.seq ?_
      refine CW.region ?_
      refine RT.ev rfl rfl (Ev.move rfl) <| RT.ev rfl rfl (Ev.assign rfl) <| RT.ev rfl rfl (Ev.assign rfl) ?_
      refine RT.nil ?_
      refine CW.ret ?_
      show PostK _ _ _ _ _ _
      refine post2 rfl rfl rfl ?_
      have hs_8 : Sat w [cObj g_1 79 [(Value.int .i64 (((l).length : Nat) : Int)), (Value.int .i64 ((0 : Nat) : Int)), lv_1, bv_1, (Value.int .i64 ((0 : Nat) : Int)), (Value.slice none 0 0)], cL lv_1 3 (encN .i64) ([]), cL bv_1 124 (encPt) (ps_1), cParts (ps_1), cL (Value.slice none 0 0) 3 (encN .i64) ([])] w_6 := hs_6.sub ((.cons_cons _ (.cons_cons _ (.cons_cons _ (.cons_cons _ (.cons_cons _ (.cons _ (.cons _ (.cons _ (.cons _ (.cons _ (.cons _ (.cons _ .slnil)))))))))))))
      obtain ⟨hk1, hk2, hk3⟩ := kindN_zero (l := l) (by have hc := hc_2; rw [hps_1, hps_2] at hc; simpa [plK] using hc)
      refine ⟨g_1, lv_1, bv_1, ps_1, rfl, by rw [hps_1, hk3], ?_⟩
      rw [hk1, hk2]
      exact hs_8

end Go.Proofs.Ytfhbflhnelbkfaa
