/- The walks of the functions of F13n, printed by our own program (kwgen.py) out of our descriptions (base.py). -/
import Derived.Test.YtfhbflhnelbkfaaF13l
import Derived.Test.YtfhbflhnelbkfaaKq
import Derived.Test.YtfhbflhnelbkfaaTab
namespace Go.Proofs.Ytfhbflhnelbkfaa
open Go.RowKit Go.Kw
set_option maxRecDepth 100000
set_option linter.unusedVariables false
set_option linter.unusedSimpArgs false
theorem numN_no {W : List ByteArray} {s : ByteArray} (h : ¬ W[lbW W s]? = some s) : numN W s = (0, false) := by
  rcases Nat.lt_or_ge (lbW W s) W.length with h1 | h1
  · have hx : W[lbW W s]? = some W[lbW W s] := List.getElem?_eq_getElem h1
    rw [numN_get hx, if_neg]
    intro e
    exact h (by rw [hx, e])
  · exact numN_none h1

theorem lexiconFinds_ok (v : Value) (vs : List ByteArray) (s : ByteArray) (n : Int) (w : World) (hv : RdL w v encTx vs) (hn : vs.length ≤ 9223372036854775807) :
    CallsV Try.prog 11 [v, (Value.string s), (Value.int .i64 (n))] w fun r w' => r = .bool true ∧ Sat w [] w' := by
  have hs0 := Sat.start w
  refine callsV_of Try.func11 rfl rfl ?_
  refine CW.seq ?_
  refine CW.region ?_
  refine RT.ev rfl rfl (Ev.assign rfl) ?_
  refine RT.nil ?_
  refine CW.seq ?_
  refine CW.seq ?_
  refine CW.region ?_
  refine RT.ev rfl rfl (Ev.move rfl) ?_
  refine RT.eff rfl rfl (OpE.call ent35 rfl ((long_ok _ _ _ (hv.ext hs0.ext) (hn)).mono fun r_1 w_1 h_1 => ?_))
  obtain ⟨⟨lb_1, rfl⟩, hp_1⟩ := h_1
  have hs_1 : Sat w [] _ := hs0.adds hp_1
  refine RT.nil ?_
  refine CW.cond rfl (fun hc_1 => ?_) (fun hc_1 => ?_)
  · refine CW.seq ?_
    refine CW.region ?_
    refine RT.ev rfl rfl (Ev.assign rfl) ?_
    refine RT.nil ?_
    refine CW.ret ?_
    show PostK _ _ _ _ _ _
    refine post1 rfl rfl ?_
    have hs_2 : Sat w [] w_1 := hs_1.sub (.slnil)
    exact ⟨rfl, hs_2⟩
  · refine CW.skip ?_
    refine CW.seq ?_
    rcases Decidable.em (bldE vs = 0) with he | he
    · refine CW.region ?_
      refine RT.ev rfl rfl (Ev.move rfl) ?_
      refine RT.eff rfl rfl (OpE.call ent36 rfl ((built_good _ _ _ (hv.ext hs_1.ext) he).mono fun r_2 w_2 h_2 => ?_))
      obtain ⟨lg_1, lvw_1, lvc_1, lvo_1, rvw_1, rvc_1, rfl, hp_2⟩ := h_2
      have hs_3 : Sat w [cObj lg_1 92 [lvw_1, lvc_1, lvo_1], cL lvw_1 9 (encTx) (wordsN vs), cL lvc_1 3 (encN .i64) (countsN vs), cL lvo_1 3 (encN .i64) (ordN (wordsN vs)), cL rvw_1 9 (encTx) (wordsN vs), cL rvc_1 3 (encN .i64) (countsN vs)] _ := hs_1.adds hp_2
      refine RT.ev rfl rfl (Ev.move rfl) ?_
      refine RT.ev rfl rfl (Ev.extract rfl rfl) ?_
      refine RT.ev rfl rfl (Ev.extract rfl rfl) ?_
      refine RT.ev rfl rfl (Ev.extract rfl rfl) ?_
      refine RT.eff rfl rfl (OpE.alloc hs_3 zero51 fun b_1 w_3 hs_4 hch_1 hb_1 => ?_)
      have hs_4d : Sat w [cObj lg_1 92 [lvw_1, lvc_1, lvo_1], cL lvw_1 9 (encTx) (wordsN vs), cL lvc_1 3 (encN .i64) (countsN vs), cL lvo_1 3 (encN .i64) (ordN (wordsN vs)), cL rvw_1 9 (encTx) (wordsN vs), cL rvc_1 3 (encN .i64) (countsN vs), cObj b_1 51 [(Value.slice none 0 0), (Value.slice none 0 0)]] _ := hs_4
      refine RT.ev rfl rfl (Ev.assign rfl) ?_
      refine RT.eff rfl rfl (OpE.storeObjA (vs := [rvw_1, rvc_1]) agg51 hs_4d (i := 6) rfl rfl rfl rfl (fun v h => by simp only [List.mem_cons, List.not_mem_nil, or_false] at h; rcases h with rfl | rfl; exact (hs_4d.rdL 4 rfl).oneCell; exact (hs_4d.rdL 5 rfl).oneCell) fun w_4 hs_5 hch_2 => ?_)
      have hs_5d : Sat w [cObj lg_1 92 [lvw_1, lvc_1, lvo_1], cL lvw_1 9 (encTx) (wordsN vs), cL lvc_1 3 (encN .i64) (countsN vs), cL lvo_1 3 (encN .i64) (ordN (wordsN vs)), cL rvw_1 9 (encTx) (wordsN vs), cL rvc_1 3 (encN .i64) (countsN vs), cObj b_1 51 [rvw_1, rvc_1]] _ := hs_5
      refine RT.ev rfl rfl (Ev.assign rfl) ?_
      refine RT.nil ?_
      refine CW.seq ?_
      refine CW.seq ?_
      refine CW.region ?_
      refine RT.ev rfl rfl (Ev.move rfl) ?_
      refine RT.ev rfl rfl (Ev.notB rfl) ?_
      refine RT.ev rfl rfl (Ev.move rfl) ?_
      refine RT.yes rfl rfl rfl (rfl) ?_
      refine RT.ev rfl rfl (Ev.move rfl) ?_
      refine RT.yes rfl rfl rfl (rfl) ?_
      refine RT.ev rfl rfl (Ev.eqlPt Try.underlying46 rfl rfl) ?_
      refine RT.ev rfl rfl (Ev.pickN rfl (rfl) rfl) ?_
      refine RT.nil ?_
      refine CW.condF rfl (rfl) ?_
      refine CW.skip ?_
      refine CW.seq ?_
      refine CW.region ?_
      refine RT.ev rfl rfl (Ev.move rfl) ?_
      refine RT.ev rfl rfl (Ev.move rfl) ?_
      refine RT.eff rfl rfl (OpE.call ent37 rfl ((number_ok _ _ _ _ _ _ _ s _ (hs_5d.lexAt 0 1 2 3 rfl rfl rfl rfl) (wordsN_asc vs) (by have := bld_len he; omega)).mono fun r_3 w_5 h_3 => ?_))
      obtain ⟨rfl, hp_3⟩ := h_3
      have hs_6 : Sat w [cObj lg_1 92 [lvw_1, lvc_1, lvo_1], cL lvw_1 9 (encTx) (wordsN vs), cL lvc_1 3 (encN .i64) (countsN vs), cL lvo_1 3 (encN .i64) (ordN (wordsN vs)), cL rvw_1 9 (encTx) (wordsN vs), cL rvc_1 3 (encN .i64) (countsN vs), cObj b_1 51 [rvw_1, rvc_1]] _ := hs_5d.adds hp_3
      refine RT.ev rfl rfl (Ev.move rfl) ?_
      refine RT.ev rfl rfl (Ev.extract rfl rfl) ?_
      refine RT.ev rfl rfl (Ev.extract rfl rfl) ?_
      refine RT.ev rfl rfl (Ev.assign rfl) ?_
      refine RT.ev rfl rfl (Ev.assign rfl) ?_
      refine RT.nil ?_
      refine CW.seq ?_
      refine CW.region ?_
      refine RT.ev rfl rfl (Ev.ldObj agg51 rfl hs_6 (i := 6) rfl rfl) ?_
      refine RT.ev rfl rfl (Ev.move rfl) ?_
      refine RT.eff rfl rfl (OpE.call ent38 rfl ((rfind_ok _ _ (wordsN vs) s _ (hs_6.rdL 4 rfl) ((hs_6.rdL 5 rfl).oneCell) (bld_len he)).mono fun r_4 w_6 h_4 => ?_))
      obtain ⟨rfl, hp_4⟩ := h_4
      have hs_7 : Sat w [cObj lg_1 92 [lvw_1, lvc_1, lvo_1], cL lvw_1 9 (encTx) (wordsN vs), cL lvc_1 3 (encN .i64) (countsN vs), cL lvo_1 3 (encN .i64) (ordN (wordsN vs)), cL rvw_1 9 (encTx) (wordsN vs), cL rvc_1 3 (encN .i64) (countsN vs), cObj b_1 51 [rvw_1, rvc_1]] _ := hs_6.adds hp_4
      refine RT.ev rfl rfl (Ev.move rfl) ?_
      refine RT.ev rfl rfl (Ev.extract rfl rfl) ?_
      refine RT.ev rfl rfl (Ev.extract rfl rfl) ?_
      refine RT.ev rfl rfl (Ev.assign rfl) ?_
      refine RT.ev rfl rfl (Ev.assign rfl) ?_
      refine RT.nil ?_
      refine CW.seq ?_
      refine CW.seq ?_
      rcases Decidable.em ((wordsN vs)[lbW (wordsN vs) s]? = some s) with hf | hf
      · have hnq : numN (wordsN vs) s = (lbW (wordsN vs) s, true) := by rw [numN_get hf, if_pos rfl]
        refine CW.weaken [(0, _), (1, _), (2, _), (6, _), (7, _), (8, _), (9, _), (10, (Value.int .i64 (((lbW (wordsN vs) s) : Nat) : Int))), (11, _), (12, _), (13, _), (16, _), (17, _), (18, _), (19, _), (20, _), (21, _), (22, _), (23, _), (24, _), (25, _), (26, _), (27, _), (28, _), (29, _), (34, _), (35, _), (36, _), (37, _), (38, _), (39, _), (40, _), (41, _), (42, _), (43, _), (44, _), (45, _)] ⟨rfl, rfl, rfl, rfl, rfl, rfl, rfl, congrArg some (congrArg (fun q : Nat × Bool => Value.int .i64 ((q.1 : Nat) : Int)) hnq), rfl, rfl, rfl, rfl, rfl, rfl, rfl, rfl, rfl, rfl, rfl, rfl, rfl, rfl, rfl, rfl, rfl, rfl, rfl, rfl, rfl, rfl, rfl, rfl, rfl, rfl, rfl, rfl, rfl, trivial⟩ ?_
        refine CW.weaken [(0, _), (1, _), (2, _), (6, _), (7, _), (8, _), (9, _), (10, _), (11, (Value.bool true)), (12, _), (13, _), (16, _), (17, _), (18, _), (19, _), (20, _), (21, _), (22, _), (23, _), (24, _), (25, _), (26, _), (27, _), (28, _), (29, _), (34, _), (35, _), (36, _), (37, _), (38, _), (39, _), (40, _), (41, _), (42, _), (43, _), (44, _), (45, _)] ⟨rfl, rfl, rfl, rfl, rfl, rfl, rfl, rfl, congrArg some (congrArg (fun q : Nat × Bool => Value.bool q.2) hnq), rfl, rfl, rfl, rfl, rfl, rfl, rfl, rfl, rfl, rfl, rfl, rfl, rfl, rfl, rfl, rfl, rfl, rfl, rfl, rfl, rfl, rfl, rfl, rfl, rfl, rfl, rfl, rfl, trivial⟩ ?_
        refine CW.weaken [(0, _), (1, _), (2, _), (6, _), (7, _), (8, _), (9, _), (10, _), (11, _), (12, _), (13, (Value.bool true)), (16, _), (17, _), (18, _), (19, _), (20, _), (21, _), (22, _), (23, _), (24, _), (25, _), (26, _), (27, _), (28, _), (29, _), (34, _), (35, _), (36, _), (37, _), (38, _), (39, _), (40, _), (41, _), (42, _), (43, _), (44, _), (45, _)] ⟨rfl, rfl, rfl, rfl, rfl, rfl, rfl, rfl, rfl, rfl, congrArg some (congrArg Value.bool (decide_eq_true hf)), rfl, rfl, rfl, rfl, rfl, rfl, rfl, rfl, rfl, rfl, rfl, rfl, rfl, rfl, rfl, rfl, rfl, rfl, rfl, rfl, rfl, rfl, rfl, rfl, rfl, rfl, trivial⟩ ?_
        refine CW.region ?_
        refine RT.ev rfl rfl (Ev.move rfl) ?_
        refine RT.ev rfl rfl (Ev.move rfl) ?_
        refine RT.ev rfl rfl (Ev.neqB Try.underlying4 rfl rfl) ?_
        refine RT.ev rfl rfl (Ev.move rfl) ?_
        refine RT.yes rfl rfl rfl (bool_neq (rfl) (rfl) rfl) ?_
        refine RT.ev rfl rfl (Ev.move rfl) ?_
        refine RT.yes rfl rfl rfl (bool_neq (rfl) (rfl) rfl) ?_
        refine RT.ev rfl rfl (Ev.move rfl) ?_
        refine RT.yes rfl rfl rfl (rfl) ?_
        refine RT.ev rfl rfl (Ev.move rfl) ?_
        refine RT.yes rfl rfl rfl (rfl) ?_
        refine RT.ev rfl rfl (Ev.move rfl) ?_
        refine RT.yes rfl rfl rfl (rfl) ?_
        refine RT.ev rfl rfl (Ev.neqN rfl rfl) ?_
        refine RT.yes rfl rfl rfl (bool_neq (rfl) (rfl) rfl) ?_
        refine RT.ev rfl rfl (Ev.pickY rfl (rfl) rfl) ?_
        refine RT.ev rfl rfl (Ev.pickN rfl (bool_neq (rfl) (rfl) rfl) rfl) ?_
        refine RT.ev rfl rfl (Ev.move rfl) ?_
        refine RT.yes rfl rfl rfl (decide_eq_false (fun h9 => h9 rfl)) ?_
        refine RT.ev rfl rfl (Ev.move rfl) ?_
        refine RT.yes rfl rfl rfl (decide_eq_false (fun h9 => h9 rfl)) ?_
        refine RT.ev rfl rfl (Ev.notB rfl) ?_
        refine RT.yes rfl rfl rfl (decide_eq_false (fun h9 => h9 rfl)) ?_
        refine RT.ev rfl rfl (Ev.move rfl) ?_
        refine RT.no rfl rfl rfl (rfl) rfl ?_
        refine RT.no rfl rfl rfl (rfl) rfl ?_
        refine RT.yes rfl rfl rfl (decide_eq_false (fun h9 => h9 rfl)) ?_
        refine RT.ev rfl rfl (Ev.pickN rfl (rfl) rfl) ?_
        refine RT.ev rfl rfl (Ev.pickN rfl (decide_eq_false (fun h9 => h9 rfl)) rfl) ?_
        refine RT.nil ?_
        refine CW.condF rfl (rfl) ?_
        refine CW.skip ?_
        refine CW.seq ?_
        refine CW.weaken [(0, _), (1, _), (2, _), (6, _), (7, _), (8, _), (9, _), (10, _), (11, _), (12, _), (13, _), (17, _), (29, _), (64, _)] ⟨rfl, rfl, rfl, rfl, rfl, rfl, rfl, rfl, rfl, rfl, rfl, rfl, rfl, rfl, trivial⟩ ?_
        refine CW.region ?_
        refine RT.ev rfl rfl (Ev.move rfl) ?_
        refine RT.ev rfl rfl (Ev.move rfl) ?_
        refine RT.eff rfl rfl (OpE.call ent39 rfl ((word_ok _ _ _ _ _ _ _ n _ (hs_7.lexAt 0 1 2 3 rfl rfl rfl rfl)).mono fun r_5 w_7 h_5 => ?_))
        obtain ⟨rfl, hp_5⟩ := h_5
        have hs_8 : Sat w [cObj lg_1 92 [lvw_1, lvc_1, lvo_1], cL lvw_1 9 (encTx) (wordsN vs), cL lvc_1 3 (encN .i64) (countsN vs), cL lvo_1 3 (encN .i64) (ordN (wordsN vs)), cL rvw_1 9 (encTx) (wordsN vs), cL rvc_1 3 (encN .i64) (countsN vs), cObj b_1 51 [rvw_1, rvc_1]] _ := hs_7.adds hp_5
        refine RT.ev rfl rfl (Ev.move rfl) ?_
        refine RT.ev rfl rfl (Ev.extract rfl rfl) ?_
        refine RT.ev rfl rfl (Ev.extract rfl rfl) ?_
        refine RT.ev rfl rfl (Ev.assign rfl) ?_
        refine RT.ev rfl rfl (Ev.assign rfl) ?_
        refine RT.nil ?_
        refine CW.seq ?_
        refine CW.seq ?_
        rcases (show n < 0 ∨ (0 ≤ n ∧ (((wordsN vs).length : Nat) : Int) ≤ n) ∨ (0 ≤ n ∧ n < (((wordsN vs).length : Nat) : Int)) by omega) with hnn | hnn | hnn
        · have hwa : wordAt (wordsN vs) n = (ByteArray.empty, false) := by unfold wordAt; rw [if_neg (by omega)]
          have hca : countAt (countsN vs) n = 0 := by unfold countAt; rw [if_neg (by rw [countsN_length]; omega)]
          refine CW.weaken [(0, _), (1, _), (2, _), (6, _), (7, _), (8, _), (9, _), (10, _), (11, _), (12, _), (13, _), (14, (Value.string ByteArray.empty)), (15, _), (17, _), (29, _), (64, _), (65, _), (66, _), (67, _), (68, _), (69, _), (70, _)] ⟨rfl, rfl, rfl, rfl, rfl, rfl, rfl, rfl, rfl, rfl, rfl, congrArg some (congrArg (fun q : ByteArray × Bool => Value.string q.1) hwa), rfl, rfl, rfl, rfl, rfl, rfl, rfl, rfl, rfl, rfl, trivial⟩ ?_
          refine CW.weaken [(0, _), (1, _), (2, _), (6, _), (7, _), (8, _), (9, _), (10, _), (11, _), (12, _), (13, _), (14, _), (15, (Value.bool false)), (17, _), (29, _), (64, _), (65, _), (66, _), (67, _), (68, _), (69, _), (70, _)] ⟨rfl, rfl, rfl, rfl, rfl, rfl, rfl, rfl, rfl, rfl, rfl, rfl, congrArg some (congrArg (fun q : ByteArray × Bool => Value.bool q.2) hwa), rfl, rfl, rfl, rfl, rfl, rfl, rfl, rfl, rfl, trivial⟩ ?_
          refine CW.region ?_
          refine RT.ev rfl rfl (Ev.move rfl) ?_
          refine RT.ev rfl rfl (Ev.lss rfl rfl) ?_
          refine RT.ev rfl rfl (Ev.move rfl) ?_
          refine RT.no rfl rfl rfl (decide_eq_true (by omega)) rfl ?_
          refine RT.no rfl rfl rfl (decide_eq_true (by omega)) rfl ?_
          refine RT.no rfl rfl rfl (decide_eq_true (by omega)) rfl ?_
          refine RT.no rfl rfl rfl (decide_eq_true (by omega)) rfl ?_
          refine RT.no rfl rfl rfl (decide_eq_true (by omega)) rfl ?_
          refine RT.ev rfl rfl (Ev.pickY rfl (decide_eq_true (by omega)) rfl) ?_
          refine RT.nil ?_
          refine CW.condT rfl (rfl) ?_
          refine CW.seq ?_
          refine CW.region ?_
          refine RT.ev rfl rfl (Ev.move rfl) ?_
          refine RT.ev rfl rfl (Ev.notB rfl) ?_
          refine RT.ev rfl rfl (Ev.move rfl) ?_
          refine RT.yes rfl rfl rfl (rfl) ?_
          refine RT.ev rfl rfl (Ev.move rfl) ?_
          refine RT.yes rfl rfl rfl (rfl) ?_
          refine RT.ev rfl rfl (Ev.strEql rfl rfl) ?_
          refine RT.ev rfl rfl (Ev.pickY rfl (rfl) rfl) ?_
          refine RT.ev rfl rfl (Ev.move rfl) ?_
          refine RT.yes rfl rfl rfl (decide_eq_true (rfl)) ?_
          refine RT.ev rfl rfl (Ev.move rfl) ?_
          refine RT.yes rfl rfl rfl (decide_eq_true (rfl)) ?_
          refine RT.ev rfl rfl (Ev.move rfl) ?_
          refine RT.yes rfl rfl rfl (decide_eq_true (rfl)) ?_
          refine RT.eff rfl rfl (OpE.call ent40 rfl ((count_ok _ _ _ _ _ _ _ n _ (hs_8.lexAt 0 1 2 3 rfl rfl rfl rfl)).mono fun r_6 w_8 h_6 => ?_))
          obtain ⟨rfl, hp_6⟩ := h_6
          have hs_9 : Sat w [cObj lg_1 92 [lvw_1, lvc_1, lvo_1], cL lvw_1 9 (encTx) (wordsN vs), cL lvc_1 3 (encN .i64) (countsN vs), cL lvo_1 3 (encN .i64) (ordN (wordsN vs)), cL rvw_1 9 (encTx) (wordsN vs), cL rvc_1 3 (encN .i64) (countsN vs), cObj b_1 51 [rvw_1, rvc_1]] _ := hs_8.adds hp_6
          refine RT.yes rfl rfl rfl (decide_eq_true (rfl)) ?_
          refine RT.ev rfl rfl (Ev.eqlN (b := 0) rfl rfl) ?_
          refine RT.ev rfl rfl (Ev.pickY rfl (decide_eq_true (rfl)) rfl) ?_
          refine RT.ev rfl rfl (Ev.move rfl) ?_
          refine RT.yes rfl rfl rfl (decide_eq_true (hca)) ?_
          refine RT.eff rfl rfl (OpE.call ent33 rfl ((lawake_ok _).mono fun r_7 w_9 h_7 => ?_))
          obtain ⟨rfl, hp_7⟩ := h_7
          have hs_10 : Sat w [cObj lg_1 92 [lvw_1, lvc_1, lvo_1], cL lvw_1 9 (encTx) (wordsN vs), cL lvc_1 3 (encN .i64) (countsN vs), cL lvo_1 3 (encN .i64) (ordN (wordsN vs)), cL rvw_1 9 (encTx) (wordsN vs), cL rvc_1 3 (encN .i64) (countsN vs), cObj b_1 51 [rvw_1, rvc_1]] _ := hs_9.adds hp_7
          refine RT.ev rfl rfl (Ev.pickY rfl (decide_eq_true (hca)) rfl) ?_
          refine RT.ev rfl rfl (Ev.assign rfl) ?_
          refine RT.nil ?_
          refine CW.ret ?_
          show PostK _ _ _ _ _ _
          refine post1 rfl rfl ?_
          have hs_11 : Sat w [] w_9 := hs_10.sub ((.cons _ (.cons _ (.cons _ (.cons _ (.cons _ (.cons _ (.cons _ .slnil))))))))
          exact ⟨rfl, hs_11⟩
        · have hwa : wordAt (wordsN vs) n = (ByteArray.empty, false) := by unfold wordAt; rw [if_neg (by omega)]
          have hca : countAt (countsN vs) n = 0 := by unfold countAt; rw [if_neg (by rw [countsN_length]; omega)]
          refine CW.weaken [(0, _), (1, _), (2, _), (6, _), (7, _), (8, _), (9, _), (10, _), (11, _), (12, _), (13, _), (14, (Value.string ByteArray.empty)), (15, _), (17, _), (29, _), (64, _), (65, _), (66, _), (67, _), (68, _), (69, _), (70, _)] ⟨rfl, rfl, rfl, rfl, rfl, rfl, rfl, rfl, rfl, rfl, rfl, congrArg some (congrArg (fun q : ByteArray × Bool => Value.string q.1) hwa), rfl, rfl, rfl, rfl, rfl, rfl, rfl, rfl, rfl, rfl, trivial⟩ ?_
          refine CW.weaken [(0, _), (1, _), (2, _), (6, _), (7, _), (8, _), (9, _), (10, _), (11, _), (12, _), (13, _), (14, _), (15, (Value.bool false)), (17, _), (29, _), (64, _), (65, _), (66, _), (67, _), (68, _), (69, _), (70, _)] ⟨rfl, rfl, rfl, rfl, rfl, rfl, rfl, rfl, rfl, rfl, rfl, rfl, congrArg some (congrArg (fun q : ByteArray × Bool => Value.bool q.2) hwa), rfl, rfl, rfl, rfl, rfl, rfl, rfl, rfl, rfl, trivial⟩ ?_
          refine CW.region ?_
          refine RT.ev rfl rfl (Ev.move rfl) ?_
          refine RT.ev rfl rfl (Ev.lss rfl rfl) ?_
          refine RT.ev rfl rfl (Ev.move rfl) ?_
          refine RT.yes rfl rfl rfl (decide_eq_false (by omega)) ?_
          refine RT.ev rfl rfl (Ev.move rfl) ?_
          refine RT.yes rfl rfl rfl (decide_eq_false (by omega)) ?_
          refine RT.ev rfl rfl (Ev.fieldAddr fld51_0 rfl rfl) ?_
          refine RT.yes rfl rfl rfl (decide_eq_false (by omega)) ?_
          refine RT.ev rfl rfl (Ev.load scal45 rfl (hs_8.cell (i := 6) (j := 0) rfl rfl)) ?_
          refine RT.yes rfl rfl rfl (decide_eq_false (by omega)) ?_
          refine RT.ev rfl rfl (Ev.lenL Try.underlying45 rfl (hs_8.rdL 4 rfl)) ?_
          refine RT.yes rfl rfl rfl (decide_eq_false (by omega)) ?_
          refine RT.ev rfl rfl (Ev.geq rfl rfl) ?_
          refine RT.ev rfl rfl (Ev.pickN rfl (decide_eq_false (by omega)) rfl) ?_
          refine RT.nil ?_
          refine CW.condT rfl (decide_eq_true (by omega)) ?_
          refine CW.seq ?_
          refine CW.region ?_
          refine RT.ev rfl rfl (Ev.move rfl) ?_
          refine RT.ev rfl rfl (Ev.notB rfl) ?_
          refine RT.ev rfl rfl (Ev.move rfl) ?_
          refine RT.yes rfl rfl rfl (rfl) ?_
          refine RT.ev rfl rfl (Ev.move rfl) ?_
          refine RT.yes rfl rfl rfl (rfl) ?_
          refine RT.ev rfl rfl (Ev.strEql rfl rfl) ?_
          refine RT.ev rfl rfl (Ev.pickY rfl (rfl) rfl) ?_
          refine RT.ev rfl rfl (Ev.move rfl) ?_
          refine RT.yes rfl rfl rfl (decide_eq_true (rfl)) ?_
          refine RT.ev rfl rfl (Ev.move rfl) ?_
          refine RT.yes rfl rfl rfl (decide_eq_true (rfl)) ?_
          refine RT.ev rfl rfl (Ev.move rfl) ?_
          refine RT.yes rfl rfl rfl (decide_eq_true (rfl)) ?_
          refine RT.eff rfl rfl (OpE.call ent40 rfl ((count_ok _ _ _ _ _ _ _ n _ (hs_8.lexAt 0 1 2 3 rfl rfl rfl rfl)).mono fun r_8 w_10 h_8 => ?_))
          obtain ⟨rfl, hp_8⟩ := h_8
          have hs_12 : Sat w [cObj lg_1 92 [lvw_1, lvc_1, lvo_1], cL lvw_1 9 (encTx) (wordsN vs), cL lvc_1 3 (encN .i64) (countsN vs), cL lvo_1 3 (encN .i64) (ordN (wordsN vs)), cL rvw_1 9 (encTx) (wordsN vs), cL rvc_1 3 (encN .i64) (countsN vs), cObj b_1 51 [rvw_1, rvc_1]] _ := hs_8.adds hp_8
          refine RT.yes rfl rfl rfl (decide_eq_true (rfl)) ?_
          refine RT.ev rfl rfl (Ev.eqlN (b := 0) rfl rfl) ?_
          refine RT.ev rfl rfl (Ev.pickY rfl (decide_eq_true (rfl)) rfl) ?_
          refine RT.ev rfl rfl (Ev.move rfl) ?_
          refine RT.yes rfl rfl rfl (decide_eq_true (hca)) ?_
          refine RT.eff rfl rfl (OpE.call ent33 rfl ((lawake_ok _).mono fun r_9 w_11 h_9 => ?_))
          obtain ⟨rfl, hp_9⟩ := h_9
          have hs_13 : Sat w [cObj lg_1 92 [lvw_1, lvc_1, lvo_1], cL lvw_1 9 (encTx) (wordsN vs), cL lvc_1 3 (encN .i64) (countsN vs), cL lvo_1 3 (encN .i64) (ordN (wordsN vs)), cL rvw_1 9 (encTx) (wordsN vs), cL rvc_1 3 (encN .i64) (countsN vs), cObj b_1 51 [rvw_1, rvc_1]] _ := hs_12.adds hp_9
          refine RT.ev rfl rfl (Ev.pickY rfl (decide_eq_true (hca)) rfl) ?_
          refine RT.ev rfl rfl (Ev.assign rfl) ?_
          refine RT.nil ?_
          refine CW.ret ?_
          show PostK _ _ _ _ _ _
          refine post1 rfl rfl ?_
          have hs_14 : Sat w [] w_11 := hs_13.sub ((.cons _ (.cons _ (.cons _ (.cons _ (.cons _ (.cons _ (.cons _ .slnil))))))))
          exact ⟨rfl, hs_14⟩
        · obtain ⟨m, rfl⟩ : ∃ m : Nat, n = m := ⟨n.toNat, by omega⟩
          obtain ⟨x, hx⟩ : ∃ x, (wordsN vs)[m]? = some x := ⟨_, List.getElem?_eq_getElem (by omega)⟩
          obtain ⟨c, hc⟩ : ∃ c, (countsN vs)[m]? = some c := ⟨_, List.getElem?_eq_getElem (by rw [countsN_length]; omega)⟩
          refine CW.weaken [(0, _), (1, _), (2, _), (6, _), (7, _), (8, _), (9, _), (10, _), (11, _), (12, _), (13, _), (14, (Value.string x)), (15, _), (17, _), (29, _), (64, _), (65, _), (66, _), (67, _), (68, _), (69, _), (70, _)] ⟨rfl, rfl, rfl, rfl, rfl, rfl, rfl, rfl, rfl, rfl, rfl, congrArg some (congrArg (fun q : ByteArray × Bool => Value.string q.1) (wordAt_get hx)), rfl, rfl, rfl, rfl, rfl, rfl, rfl, rfl, rfl, rfl, trivial⟩ ?_
          refine CW.weaken [(0, _), (1, _), (2, _), (6, _), (7, _), (8, _), (9, _), (10, _), (11, _), (12, _), (13, _), (14, _), (15, (Value.bool true)), (17, _), (29, _), (64, _), (65, _), (66, _), (67, _), (68, _), (69, _), (70, _)] ⟨rfl, rfl, rfl, rfl, rfl, rfl, rfl, rfl, rfl, rfl, rfl, rfl, congrArg some (congrArg (fun q : ByteArray × Bool => Value.bool q.2) (wordAt_get hx)), rfl, rfl, rfl, rfl, rfl, rfl, rfl, rfl, rfl, trivial⟩ ?_
          refine CW.region ?_
          refine RT.ev rfl rfl (Ev.move rfl) ?_
          refine RT.ev rfl rfl (Ev.lssN (b := 0) rfl rfl) ?_
          refine RT.ev rfl rfl (Ev.move rfl) ?_
          refine RT.yes rfl rfl rfl (decide_eq_false (by omega)) ?_
          refine RT.ev rfl rfl (Ev.move rfl) ?_
          refine RT.yes rfl rfl rfl (decide_eq_false (by omega)) ?_
          refine RT.ev rfl rfl (Ev.fieldAddr fld51_0 rfl rfl) ?_
          refine RT.yes rfl rfl rfl (decide_eq_false (by omega)) ?_
          refine RT.ev rfl rfl (Ev.load scal45 rfl (hs_8.cell (i := 6) (j := 0) rfl rfl)) ?_
          refine RT.yes rfl rfl rfl (decide_eq_false (by omega)) ?_
          refine RT.ev rfl rfl (Ev.lenL Try.underlying45 rfl (hs_8.rdL 4 rfl)) ?_
          refine RT.yes rfl rfl rfl (decide_eq_false (by omega)) ?_
          refine RT.ev rfl rfl (Ev.geqN rfl rfl) ?_
          refine RT.ev rfl rfl (Ev.pickN rfl (decide_eq_false (by omega)) rfl) ?_
          refine RT.nil ?_
          refine CW.condF rfl (decide_eq_false (by omega)) ?_
          refine CW.skip ?_
          refine CW.seq ?_
          refine CW.draw (fun w' => Sat w [cObj lg_1 92 [lvw_1, lvc_1, lvo_1], cL lvw_1 9 (encTx) (wordsN vs), cL lvc_1 3 (encN .i64) (countsN vs), cL lvo_1 3 (encN .i64) (ordN (wordsN vs)), cL rvw_1 9 (encTx) (wordsN vs), cL rvc_1 3 (encN .i64) (countsN vs), cObj b_1 51 [rvw_1, rvc_1]] w') (.free 0 (.free 1 (.free 2 (.free 3 (.free 4 (.free 5 (.free 6 (.free 7 (.free 8 (.free 9 (.free 10 (.free 11 (.free 12 (.free 14 (.free 15 (.free 16 (.free 17 (.free 18 (.one 13 (.free 19 (.free 20 (.free 21 (.one 22 (.free 23 (.free 24 .fin))))))))))))))))))))))))) mixed (by kernel_rfl) ?_
          have hs_15 := hs_8.drew
          refine RP.ev rfl rfl rfl (fun w' hS' => Ev.move rfl) hs_15 ?_
          refine RP.ev rfl rfl rfl (fun w' hS' => Ev.move rfl) hs_15 ?_
          refine RP.evYes rfl rfl rfl rfl (rfl) rfl (fun w' hS' => Ev.move rfl) hs_15 ?_
          refine RP.evYes rfl rfl rfl rfl (rfl) rfl (fun w' hS' => Ev.fieldAddr fld51_0 rfl rfl) hs_15 ?_
          refine RP.evYes rfl rfl rfl rfl (rfl) rfl (fun w' hS' => Ev.load scal45 rfl (hS'.cell (i := 6) (j := 0) rfl rfl)) hs_15 ?_
          refine RP.evYes rfl rfl rfl rfl (rfl) rfl (fun w' hS' => Ev.move rfl) hs_15 ?_
          refine RP.evYes rfl rfl rfl rfl (rfl) rfl (fun w' hS' => Ev.idxL (E := encTx) sl45 rfl rfl (hS'.rdL 4 rfl) (by omega)) hs_15 ?_
          refine RP.evYes rfl rfl rfl rfl (rfl) rfl (fun w' hS' => Ev.ldL (E := encTx) scal9 rfl (hS'.rdL 4 rfl) hx (by decide) rfl) hs_15 ?_
          refine RP.evYes rfl rfl rfl rfl (rfl) rfl (fun w' hS' => Ev.strEql rfl rfl) hs_15 ?_
          refine RP.ev rfl rfl rfl (fun w' hS' => Ev.pickY rfl (rfl) rfl) hs_15 ?_
          refine RP.ev rfl rfl rfl (fun w' hS' => Ev.move rfl) hs_15 ?_
          refine RP.evYes rfl rfl rfl rfl (decide_eq_true (rfl)) rfl (fun w' hS' => Ev.move rfl) hs_15 ?_
          refine RP.evYes rfl rfl rfl rfl (decide_eq_true (rfl)) rfl (fun w' hS' => Ev.move rfl) hs_15 ?_
          refine RP.evYes rfl rfl rfl rfl (decide_eq_true (rfl)) rfl (fun w' hS' => Ev.fieldAddr fld51_1 rfl rfl) hs_15 ?_
          refine RP.evYes rfl rfl rfl rfl (decide_eq_true (rfl)) rfl (fun w' hS' => Ev.load scal22 rfl (hS'.cell (i := 6) (j := 1) rfl rfl)) hs_15 ?_
          refine RP.evYes rfl rfl rfl rfl (decide_eq_true (rfl)) rfl (fun w' hS' => Ev.move rfl) hs_15 ?_
          refine RP.evYes rfl rfl rfl rfl (decide_eq_true (rfl)) rfl (fun w' hS' => Ev.idxL (E := encN .i64) sl22 rfl rfl (hS'.rdL 5 rfl) (by rw [countsN_length]; omega)) hs_15 ?_
          refine RP.evYes rfl rfl rfl rfl (decide_eq_true (rfl)) rfl (fun w' hS' => Ev.ldL (E := encN .i64) scal3 rfl (hS'.rdL 5 rfl) hc (by decide) rfl) hs_15 ?_
          refine RP.effYes rfl rfl rfl rfl (decide_eq_true (rfl)) rfl (OpE.call ent40 rfl ((count_ok _ _ _ _ _ _ _ ((m : Nat) : Int) _ (hs_15.lexAt 0 1 2 3 rfl rfl rfl rfl)).mono fun r_10 w_12 h_10 => ?_))
          obtain ⟨rfl, hp_10⟩ := h_10
          have hs_16 : Sat w [cObj lg_1 92 [lvw_1, lvc_1, lvo_1], cL lvw_1 9 (encTx) (wordsN vs), cL lvc_1 3 (encN .i64) (countsN vs), cL lvo_1 3 (encN .i64) (ordN (wordsN vs)), cL rvw_1 9 (encTx) (wordsN vs), cL rvc_1 3 (encN .i64) (countsN vs), cObj b_1 51 [rvw_1, rvc_1]] _ := hs_15.adds hp_10
          have hS_1 : Sat w [cObj lg_1 92 [lvw_1, lvc_1, lvo_1], cL lvw_1 9 (encTx) (wordsN vs), cL lvc_1 3 (encN .i64) (countsN vs), cL lvo_1 3 (encN .i64) (ordN (wordsN vs)), cL rvw_1 9 (encTx) (wordsN vs), cL rvc_1 3 (encN .i64) (countsN vs), cObj b_1 51 [rvw_1, rvc_1]] _ := hs_16.sub ((.cons_cons _ (.cons_cons _ (.cons_cons _ (.cons_cons _ (.cons_cons _ (.cons_cons _ (.cons_cons _ .slnil))))))))
          refine ⟨hS_1, ?_⟩
          refine RP.evYes rfl rfl rfl rfl (decide_eq_true (rfl)) rfl (fun w' hS' => Ev.eqlN rfl rfl) hS_1 ?_
          refine RP.ev rfl rfl rfl (fun w' hS' => Ev.pickY rfl (decide_eq_true (rfl)) rfl) hS_1 ?_
          refine RP.ev rfl rfl rfl (fun w' hS' => Ev.move rfl) hS_1 ?_
          refine RP.effYes rfl rfl rfl rfl (decide_eq_true (countAt_get hc)) rfl (OpE.call ent33 rfl ((lawake_ok _).mono fun r_11 w_13 h_11 => ?_))
          obtain ⟨rfl, hp_11⟩ := h_11
          have hs_17 : Sat w [cObj lg_1 92 [lvw_1, lvc_1, lvo_1], cL lvw_1 9 (encTx) (wordsN vs), cL lvc_1 3 (encN .i64) (countsN vs), cL lvo_1 3 (encN .i64) (ordN (wordsN vs)), cL rvw_1 9 (encTx) (wordsN vs), cL rvc_1 3 (encN .i64) (countsN vs), cObj b_1 51 [rvw_1, rvc_1]] _ := hs_16.adds hp_11
          have hS_2 : Sat w [cObj lg_1 92 [lvw_1, lvc_1, lvo_1], cL lvw_1 9 (encTx) (wordsN vs), cL lvc_1 3 (encN .i64) (countsN vs), cL lvo_1 3 (encN .i64) (ordN (wordsN vs)), cL rvw_1 9 (encTx) (wordsN vs), cL rvc_1 3 (encN .i64) (countsN vs), cObj b_1 51 [rvw_1, rvc_1]] _ := hs_17.sub ((.cons_cons _ (.cons_cons _ (.cons_cons _ (.cons_cons _ (.cons_cons _ (.cons_cons _ (.cons_cons _ .slnil))))))))
          refine ⟨hS_2, ?_⟩
          refine RP.ev rfl rfl rfl (fun w' hS' => Ev.pickY rfl (decide_eq_true (countAt_get hc)) rfl) hS_2 ?_
          refine RP.ev rfl rfl rfl (fun w' hS' => Ev.assign rfl) hS_2 ?_
          refine RP.fin ?_
          refine CW.ret ?_
          show PostK _ _ _ _ _ _
          refine post1 rfl rfl ?_
          have hs_18 : Sat w [] w_13 := hs_17.sub ((.cons _ (.cons _ (.cons _ (.cons _ (.cons _ (.cons _ (.cons _ .slnil))))))))
          exact ⟨rfl, hs_18⟩
      · have hnq : numN (wordsN vs) s = (0, false) := numN_no hf
        refine CW.weaken [(0, _), (1, _), (2, _), (6, _), (7, _), (8, _), (9, _), (10, (Value.int .i64 ((0 : Nat) : Int))), (11, _), (12, _), (13, _), (16, _), (17, _), (18, _), (19, _), (20, _), (21, _), (22, _), (23, _), (24, _), (25, _), (26, _), (27, _), (28, _), (29, _), (34, _), (35, _), (36, _), (37, _), (38, _), (39, _), (40, _), (41, _), (42, _), (43, _), (44, _), (45, _)] ⟨rfl, rfl, rfl, rfl, rfl, rfl, rfl, congrArg some (congrArg (fun q : Nat × Bool => Value.int .i64 ((q.1 : Nat) : Int)) hnq), rfl, rfl, rfl, rfl, rfl, rfl, rfl, rfl, rfl, rfl, rfl, rfl, rfl, rfl, rfl, rfl, rfl, rfl, rfl, rfl, rfl, rfl, rfl, rfl, rfl, rfl, rfl, rfl, rfl, trivial⟩ ?_
        refine CW.weaken [(0, _), (1, _), (2, _), (6, _), (7, _), (8, _), (9, _), (10, _), (11, (Value.bool false)), (12, _), (13, _), (16, _), (17, _), (18, _), (19, _), (20, _), (21, _), (22, _), (23, _), (24, _), (25, _), (26, _), (27, _), (28, _), (29, _), (34, _), (35, _), (36, _), (37, _), (38, _), (39, _), (40, _), (41, _), (42, _), (43, _), (44, _), (45, _)] ⟨rfl, rfl, rfl, rfl, rfl, rfl, rfl, rfl, congrArg some (congrArg (fun q : Nat × Bool => Value.bool q.2) hnq), rfl, rfl, rfl, rfl, rfl, rfl, rfl, rfl, rfl, rfl, rfl, rfl, rfl, rfl, rfl, rfl, rfl, rfl, rfl, rfl, rfl, rfl, rfl, rfl, rfl, rfl, rfl, rfl, trivial⟩ ?_
        refine CW.weaken [(0, _), (1, _), (2, _), (6, _), (7, _), (8, _), (9, _), (10, _), (11, _), (12, _), (13, (Value.bool false)), (16, _), (17, _), (18, _), (19, _), (20, _), (21, _), (22, _), (23, _), (24, _), (25, _), (26, _), (27, _), (28, _), (29, _), (34, _), (35, _), (36, _), (37, _), (38, _), (39, _), (40, _), (41, _), (42, _), (43, _), (44, _), (45, _)] ⟨rfl, rfl, rfl, rfl, rfl, rfl, rfl, rfl, rfl, rfl, congrArg some (congrArg Value.bool (decide_eq_false hf)), rfl, rfl, rfl, rfl, rfl, rfl, rfl, rfl, rfl, rfl, rfl, rfl, rfl, rfl, rfl, rfl, rfl, rfl, rfl, rfl, rfl, rfl, rfl, rfl, rfl, rfl, trivial⟩ ?_
        refine CW.region ?_
        refine RT.ev rfl rfl (Ev.move rfl) ?_
        refine RT.ev rfl rfl (Ev.move rfl) ?_
        refine RT.ev rfl rfl (Ev.neqB Try.underlying4 rfl rfl) ?_
        refine RT.ev rfl rfl (Ev.move rfl) ?_
        refine RT.yes rfl rfl rfl (bool_neq (rfl) (rfl) rfl) ?_
        refine RT.ev rfl rfl (Ev.move rfl) ?_
        refine RT.yes rfl rfl rfl (bool_neq (rfl) (rfl) rfl) ?_
        refine RT.ev rfl rfl (Ev.move rfl) ?_
        refine RT.no rfl rfl rfl (rfl) rfl ?_
        refine RT.no rfl rfl rfl (rfl) rfl ?_
        refine RT.no rfl rfl rfl (rfl) rfl ?_
        refine RT.yes rfl rfl rfl (bool_neq (rfl) (rfl) rfl) ?_
        refine RT.ev rfl rfl (Ev.pickN rfl (rfl) rfl) ?_
        refine RT.ev rfl rfl (Ev.pickN rfl (bool_neq (rfl) (rfl) rfl) rfl) ?_
        refine RT.ev rfl rfl (Ev.move rfl) ?_
        refine RT.yes rfl rfl rfl (rfl) ?_
        refine RT.ev rfl rfl (Ev.move rfl) ?_
        refine RT.yes rfl rfl rfl (rfl) ?_
        refine RT.ev rfl rfl (Ev.notB rfl) ?_
        refine RT.yes rfl rfl rfl (rfl) ?_
        refine RT.ev rfl rfl (Ev.move rfl) ?_
        refine RT.yes rfl rfl rfl (rfl) ?_
        refine RT.ev rfl rfl (Ev.move rfl) ?_
        refine RT.yes rfl rfl rfl (rfl) ?_
        refine RT.ev rfl rfl (Ev.neqN (a := 0) (b := 0) rfl rfl) ?_
        refine RT.yes rfl rfl rfl (rfl) ?_
        refine RT.ev rfl rfl (Ev.pickY rfl (rfl) rfl) ?_
        refine RT.ev rfl rfl (Ev.pickN rfl (rfl) rfl) ?_
        refine RT.nil ?_
        refine CW.condF rfl (rfl) ?_
        refine CW.skip ?_
        refine CW.seq ?_
        refine CW.weaken [(0, _), (1, _), (2, _), (6, _), (7, _), (8, _), (9, _), (10, _), (11, _), (12, _), (13, _), (17, _), (29, _), (64, _)] ⟨rfl, rfl, rfl, rfl, rfl, rfl, rfl, rfl, rfl, rfl, rfl, rfl, rfl, rfl, trivial⟩ ?_
        refine CW.region ?_
        refine RT.ev rfl rfl (Ev.move rfl) ?_
        refine RT.ev rfl rfl (Ev.move rfl) ?_
        refine RT.eff rfl rfl (OpE.call ent39 rfl ((word_ok _ _ _ _ _ _ _ n _ (hs_7.lexAt 0 1 2 3 rfl rfl rfl rfl)).mono fun r_12 w_14 h_12 => ?_))
        obtain ⟨rfl, hp_12⟩ := h_12
        have hs_19 : Sat w [cObj lg_1 92 [lvw_1, lvc_1, lvo_1], cL lvw_1 9 (encTx) (wordsN vs), cL lvc_1 3 (encN .i64) (countsN vs), cL lvo_1 3 (encN .i64) (ordN (wordsN vs)), cL rvw_1 9 (encTx) (wordsN vs), cL rvc_1 3 (encN .i64) (countsN vs), cObj b_1 51 [rvw_1, rvc_1]] _ := hs_7.adds hp_12
        refine RT.ev rfl rfl (Ev.move rfl) ?_
        refine RT.ev rfl rfl (Ev.extract rfl rfl) ?_
        refine RT.ev rfl rfl (Ev.extract rfl rfl) ?_
        refine RT.ev rfl rfl (Ev.assign rfl) ?_
        refine RT.ev rfl rfl (Ev.assign rfl) ?_
        refine RT.nil ?_
        refine CW.seq ?_
        refine CW.seq ?_
        rcases (show n < 0 ∨ (0 ≤ n ∧ (((wordsN vs).length : Nat) : Int) ≤ n) ∨ (0 ≤ n ∧ n < (((wordsN vs).length : Nat) : Int)) by omega) with hnn | hnn | hnn
        · have hwa : wordAt (wordsN vs) n = (ByteArray.empty, false) := by unfold wordAt; rw [if_neg (by omega)]
          have hca : countAt (countsN vs) n = 0 := by unfold countAt; rw [if_neg (by rw [countsN_length]; omega)]
          refine CW.weaken [(0, _), (1, _), (2, _), (6, _), (7, _), (8, _), (9, _), (10, _), (11, _), (12, _), (13, _), (14, (Value.string ByteArray.empty)), (15, _), (17, _), (29, _), (64, _), (65, _), (66, _), (67, _), (68, _), (69, _), (70, _)] ⟨rfl, rfl, rfl, rfl, rfl, rfl, rfl, rfl, rfl, rfl, rfl, congrArg some (congrArg (fun q : ByteArray × Bool => Value.string q.1) hwa), rfl, rfl, rfl, rfl, rfl, rfl, rfl, rfl, rfl, rfl, trivial⟩ ?_
          refine CW.weaken [(0, _), (1, _), (2, _), (6, _), (7, _), (8, _), (9, _), (10, _), (11, _), (12, _), (13, _), (14, _), (15, (Value.bool false)), (17, _), (29, _), (64, _), (65, _), (66, _), (67, _), (68, _), (69, _), (70, _)] ⟨rfl, rfl, rfl, rfl, rfl, rfl, rfl, rfl, rfl, rfl, rfl, rfl, congrArg some (congrArg (fun q : ByteArray × Bool => Value.bool q.2) hwa), rfl, rfl, rfl, rfl, rfl, rfl, rfl, rfl, rfl, trivial⟩ ?_
          refine CW.region ?_
          refine RT.ev rfl rfl (Ev.move rfl) ?_
          refine RT.ev rfl rfl (Ev.lss rfl rfl) ?_
          refine RT.ev rfl rfl (Ev.move rfl) ?_
          refine RT.no rfl rfl rfl (decide_eq_true (by omega)) rfl ?_
          refine RT.no rfl rfl rfl (decide_eq_true (by omega)) rfl ?_
          refine RT.no rfl rfl rfl (decide_eq_true (by omega)) rfl ?_
          refine RT.no rfl rfl rfl (decide_eq_true (by omega)) rfl ?_
          refine RT.no rfl rfl rfl (decide_eq_true (by omega)) rfl ?_
          refine RT.ev rfl rfl (Ev.pickY rfl (decide_eq_true (by omega)) rfl) ?_
          refine RT.nil ?_
          refine CW.condT rfl (rfl) ?_
          refine CW.seq ?_
          refine CW.region ?_
          refine RT.ev rfl rfl (Ev.move rfl) ?_
          refine RT.ev rfl rfl (Ev.notB rfl) ?_
          refine RT.ev rfl rfl (Ev.move rfl) ?_
          refine RT.yes rfl rfl rfl (rfl) ?_
          refine RT.ev rfl rfl (Ev.move rfl) ?_
          refine RT.yes rfl rfl rfl (rfl) ?_
          refine RT.ev rfl rfl (Ev.strEql rfl rfl) ?_
          refine RT.ev rfl rfl (Ev.pickY rfl (rfl) rfl) ?_
          refine RT.ev rfl rfl (Ev.move rfl) ?_
          refine RT.yes rfl rfl rfl (decide_eq_true (rfl)) ?_
          refine RT.ev rfl rfl (Ev.move rfl) ?_
          refine RT.yes rfl rfl rfl (decide_eq_true (rfl)) ?_
          refine RT.ev rfl rfl (Ev.move rfl) ?_
          refine RT.yes rfl rfl rfl (decide_eq_true (rfl)) ?_
          refine RT.eff rfl rfl (OpE.call ent40 rfl ((count_ok _ _ _ _ _ _ _ n _ (hs_19.lexAt 0 1 2 3 rfl rfl rfl rfl)).mono fun r_13 w_15 h_13 => ?_))
          obtain ⟨rfl, hp_13⟩ := h_13
          have hs_20 : Sat w [cObj lg_1 92 [lvw_1, lvc_1, lvo_1], cL lvw_1 9 (encTx) (wordsN vs), cL lvc_1 3 (encN .i64) (countsN vs), cL lvo_1 3 (encN .i64) (ordN (wordsN vs)), cL rvw_1 9 (encTx) (wordsN vs), cL rvc_1 3 (encN .i64) (countsN vs), cObj b_1 51 [rvw_1, rvc_1]] _ := hs_19.adds hp_13
          refine RT.yes rfl rfl rfl (decide_eq_true (rfl)) ?_
          refine RT.ev rfl rfl (Ev.eqlN (b := 0) rfl rfl) ?_
          refine RT.ev rfl rfl (Ev.pickY rfl (decide_eq_true (rfl)) rfl) ?_
          refine RT.ev rfl rfl (Ev.move rfl) ?_
          refine RT.yes rfl rfl rfl (decide_eq_true (hca)) ?_
          refine RT.eff rfl rfl (OpE.call ent33 rfl ((lawake_ok _).mono fun r_14 w_16 h_14 => ?_))
          obtain ⟨rfl, hp_14⟩ := h_14
          have hs_21 : Sat w [cObj lg_1 92 [lvw_1, lvc_1, lvo_1], cL lvw_1 9 (encTx) (wordsN vs), cL lvc_1 3 (encN .i64) (countsN vs), cL lvo_1 3 (encN .i64) (ordN (wordsN vs)), cL rvw_1 9 (encTx) (wordsN vs), cL rvc_1 3 (encN .i64) (countsN vs), cObj b_1 51 [rvw_1, rvc_1]] _ := hs_20.adds hp_14
          refine RT.ev rfl rfl (Ev.pickY rfl (decide_eq_true (hca)) rfl) ?_
          refine RT.ev rfl rfl (Ev.assign rfl) ?_
          refine RT.nil ?_
          refine CW.ret ?_
          show PostK _ _ _ _ _ _
          refine post1 rfl rfl ?_
          have hs_22 : Sat w [] w_16 := hs_21.sub ((.cons _ (.cons _ (.cons _ (.cons _ (.cons _ (.cons _ (.cons _ .slnil))))))))
          exact ⟨rfl, hs_22⟩
        · have hwa : wordAt (wordsN vs) n = (ByteArray.empty, false) := by unfold wordAt; rw [if_neg (by omega)]
          have hca : countAt (countsN vs) n = 0 := by unfold countAt; rw [if_neg (by rw [countsN_length]; omega)]
          refine CW.weaken [(0, _), (1, _), (2, _), (6, _), (7, _), (8, _), (9, _), (10, _), (11, _), (12, _), (13, _), (14, (Value.string ByteArray.empty)), (15, _), (17, _), (29, _), (64, _), (65, _), (66, _), (67, _), (68, _), (69, _), (70, _)] ⟨rfl, rfl, rfl, rfl, rfl, rfl, rfl, rfl, rfl, rfl, rfl, congrArg some (congrArg (fun q : ByteArray × Bool => Value.string q.1) hwa), rfl, rfl, rfl, rfl, rfl, rfl, rfl, rfl, rfl, rfl, trivial⟩ ?_
          refine CW.weaken [(0, _), (1, _), (2, _), (6, _), (7, _), (8, _), (9, _), (10, _), (11, _), (12, _), (13, _), (14, _), (15, (Value.bool false)), (17, _), (29, _), (64, _), (65, _), (66, _), (67, _), (68, _), (69, _), (70, _)] ⟨rfl, rfl, rfl, rfl, rfl, rfl, rfl, rfl, rfl, rfl, rfl, rfl, congrArg some (congrArg (fun q : ByteArray × Bool => Value.bool q.2) hwa), rfl, rfl, rfl, rfl, rfl, rfl, rfl, rfl, rfl, trivial⟩ ?_
          refine CW.region ?_
          refine RT.ev rfl rfl (Ev.move rfl) ?_
          refine RT.ev rfl rfl (Ev.lss rfl rfl) ?_
          refine RT.ev rfl rfl (Ev.move rfl) ?_
          refine RT.yes rfl rfl rfl (decide_eq_false (by omega)) ?_
          refine RT.ev rfl rfl (Ev.move rfl) ?_
          refine RT.yes rfl rfl rfl (decide_eq_false (by omega)) ?_
          refine RT.ev rfl rfl (Ev.fieldAddr fld51_0 rfl rfl) ?_
          refine RT.yes rfl rfl rfl (decide_eq_false (by omega)) ?_
          refine RT.ev rfl rfl (Ev.load scal45 rfl (hs_19.cell (i := 6) (j := 0) rfl rfl)) ?_
          refine RT.yes rfl rfl rfl (decide_eq_false (by omega)) ?_
          refine RT.ev rfl rfl (Ev.lenL Try.underlying45 rfl (hs_19.rdL 4 rfl)) ?_
          refine RT.yes rfl rfl rfl (decide_eq_false (by omega)) ?_
          refine RT.ev rfl rfl (Ev.geq rfl rfl) ?_
          refine RT.ev rfl rfl (Ev.pickN rfl (decide_eq_false (by omega)) rfl) ?_
          refine RT.nil ?_
          refine CW.condT rfl (decide_eq_true (by omega)) ?_
          refine CW.seq ?_
          refine CW.region ?_
          refine RT.ev rfl rfl (Ev.move rfl) ?_
          refine RT.ev rfl rfl (Ev.notB rfl) ?_
          refine RT.ev rfl rfl (Ev.move rfl) ?_
          refine RT.yes rfl rfl rfl (rfl) ?_
          refine RT.ev rfl rfl (Ev.move rfl) ?_
          refine RT.yes rfl rfl rfl (rfl) ?_
          refine RT.ev rfl rfl (Ev.strEql rfl rfl) ?_
          refine RT.ev rfl rfl (Ev.pickY rfl (rfl) rfl) ?_
          refine RT.ev rfl rfl (Ev.move rfl) ?_
          refine RT.yes rfl rfl rfl (decide_eq_true (rfl)) ?_
          refine RT.ev rfl rfl (Ev.move rfl) ?_
          refine RT.yes rfl rfl rfl (decide_eq_true (rfl)) ?_
          refine RT.ev rfl rfl (Ev.move rfl) ?_
          refine RT.yes rfl rfl rfl (decide_eq_true (rfl)) ?_
          refine RT.eff rfl rfl (OpE.call ent40 rfl ((count_ok _ _ _ _ _ _ _ n _ (hs_19.lexAt 0 1 2 3 rfl rfl rfl rfl)).mono fun r_15 w_17 h_15 => ?_))
          obtain ⟨rfl, hp_15⟩ := h_15
          have hs_23 : Sat w [cObj lg_1 92 [lvw_1, lvc_1, lvo_1], cL lvw_1 9 (encTx) (wordsN vs), cL lvc_1 3 (encN .i64) (countsN vs), cL lvo_1 3 (encN .i64) (ordN (wordsN vs)), cL rvw_1 9 (encTx) (wordsN vs), cL rvc_1 3 (encN .i64) (countsN vs), cObj b_1 51 [rvw_1, rvc_1]] _ := hs_19.adds hp_15
          refine RT.yes rfl rfl rfl (decide_eq_true (rfl)) ?_
          refine RT.ev rfl rfl (Ev.eqlN (b := 0) rfl rfl) ?_
          refine RT.ev rfl rfl (Ev.pickY rfl (decide_eq_true (rfl)) rfl) ?_
          refine RT.ev rfl rfl (Ev.move rfl) ?_
          refine RT.yes rfl rfl rfl (decide_eq_true (hca)) ?_
          refine RT.eff rfl rfl (OpE.call ent33 rfl ((lawake_ok _).mono fun r_16 w_18 h_16 => ?_))
          obtain ⟨rfl, hp_16⟩ := h_16
          have hs_24 : Sat w [cObj lg_1 92 [lvw_1, lvc_1, lvo_1], cL lvw_1 9 (encTx) (wordsN vs), cL lvc_1 3 (encN .i64) (countsN vs), cL lvo_1 3 (encN .i64) (ordN (wordsN vs)), cL rvw_1 9 (encTx) (wordsN vs), cL rvc_1 3 (encN .i64) (countsN vs), cObj b_1 51 [rvw_1, rvc_1]] _ := hs_23.adds hp_16
          refine RT.ev rfl rfl (Ev.pickY rfl (decide_eq_true (hca)) rfl) ?_
          refine RT.ev rfl rfl (Ev.assign rfl) ?_
          refine RT.nil ?_
          refine CW.ret ?_
          show PostK _ _ _ _ _ _
          refine post1 rfl rfl ?_
          have hs_25 : Sat w [] w_18 := hs_24.sub ((.cons _ (.cons _ (.cons _ (.cons _ (.cons _ (.cons _ (.cons _ .slnil))))))))
          exact ⟨rfl, hs_25⟩
        · obtain ⟨m, rfl⟩ : ∃ m : Nat, n = m := ⟨n.toNat, by omega⟩
          obtain ⟨x, hx⟩ : ∃ x, (wordsN vs)[m]? = some x := ⟨_, List.getElem?_eq_getElem (by omega)⟩
          obtain ⟨c, hc⟩ : ∃ c, (countsN vs)[m]? = some c := ⟨_, List.getElem?_eq_getElem (by rw [countsN_length]; omega)⟩
          refine CW.weaken [(0, _), (1, _), (2, _), (6, _), (7, _), (8, _), (9, _), (10, _), (11, _), (12, _), (13, _), (14, (Value.string x)), (15, _), (17, _), (29, _), (64, _), (65, _), (66, _), (67, _), (68, _), (69, _), (70, _)] ⟨rfl, rfl, rfl, rfl, rfl, rfl, rfl, rfl, rfl, rfl, rfl, congrArg some (congrArg (fun q : ByteArray × Bool => Value.string q.1) (wordAt_get hx)), rfl, rfl, rfl, rfl, rfl, rfl, rfl, rfl, rfl, rfl, trivial⟩ ?_
          refine CW.weaken [(0, _), (1, _), (2, _), (6, _), (7, _), (8, _), (9, _), (10, _), (11, _), (12, _), (13, _), (14, _), (15, (Value.bool true)), (17, _), (29, _), (64, _), (65, _), (66, _), (67, _), (68, _), (69, _), (70, _)] ⟨rfl, rfl, rfl, rfl, rfl, rfl, rfl, rfl, rfl, rfl, rfl, rfl, congrArg some (congrArg (fun q : ByteArray × Bool => Value.bool q.2) (wordAt_get hx)), rfl, rfl, rfl, rfl, rfl, rfl, rfl, rfl, rfl, trivial⟩ ?_
          refine CW.region ?_
          refine RT.ev rfl rfl (Ev.move rfl) ?_
          refine RT.ev rfl rfl (Ev.lssN (b := 0) rfl rfl) ?_
          refine RT.ev rfl rfl (Ev.move rfl) ?_
          refine RT.yes rfl rfl rfl (decide_eq_false (by omega)) ?_
          refine RT.ev rfl rfl (Ev.move rfl) ?_
          refine RT.yes rfl rfl rfl (decide_eq_false (by omega)) ?_
          refine RT.ev rfl rfl (Ev.fieldAddr fld51_0 rfl rfl) ?_
          refine RT.yes rfl rfl rfl (decide_eq_false (by omega)) ?_
          refine RT.ev rfl rfl (Ev.load scal45 rfl (hs_19.cell (i := 6) (j := 0) rfl rfl)) ?_
          refine RT.yes rfl rfl rfl (decide_eq_false (by omega)) ?_
          refine RT.ev rfl rfl (Ev.lenL Try.underlying45 rfl (hs_19.rdL 4 rfl)) ?_
          refine RT.yes rfl rfl rfl (decide_eq_false (by omega)) ?_
          refine RT.ev rfl rfl (Ev.geqN rfl rfl) ?_
          refine RT.ev rfl rfl (Ev.pickN rfl (decide_eq_false (by omega)) rfl) ?_
          refine RT.nil ?_
          refine CW.condF rfl (decide_eq_false (by omega)) ?_
          refine CW.skip ?_
          refine CW.seq ?_
          refine CW.draw (fun w' => Sat w [cObj lg_1 92 [lvw_1, lvc_1, lvo_1], cL lvw_1 9 (encTx) (wordsN vs), cL lvc_1 3 (encN .i64) (countsN vs), cL lvo_1 3 (encN .i64) (ordN (wordsN vs)), cL rvw_1 9 (encTx) (wordsN vs), cL rvc_1 3 (encN .i64) (countsN vs), cObj b_1 51 [rvw_1, rvc_1]] w') (.free 0 (.free 1 (.free 2 (.free 3 (.free 4 (.free 5 (.free 6 (.free 7 (.free 8 (.free 9 (.free 10 (.free 11 (.free 12 (.free 14 (.free 15 (.free 16 (.free 17 (.free 18 (.one 13 (.free 19 (.free 20 (.free 21 (.one 22 (.free 23 (.free 24 .fin))))))))))))))))))))))))) mixed (by kernel_rfl) ?_
          have hs_26 := hs_19.drew
          refine RP.ev rfl rfl rfl (fun w' hS' => Ev.move rfl) hs_26 ?_
          refine RP.ev rfl rfl rfl (fun w' hS' => Ev.move rfl) hs_26 ?_
          refine RP.evYes rfl rfl rfl rfl (rfl) rfl (fun w' hS' => Ev.move rfl) hs_26 ?_
          refine RP.evYes rfl rfl rfl rfl (rfl) rfl (fun w' hS' => Ev.fieldAddr fld51_0 rfl rfl) hs_26 ?_
          refine RP.evYes rfl rfl rfl rfl (rfl) rfl (fun w' hS' => Ev.load scal45 rfl (hS'.cell (i := 6) (j := 0) rfl rfl)) hs_26 ?_
          refine RP.evYes rfl rfl rfl rfl (rfl) rfl (fun w' hS' => Ev.move rfl) hs_26 ?_
          refine RP.evYes rfl rfl rfl rfl (rfl) rfl (fun w' hS' => Ev.idxL (E := encTx) sl45 rfl rfl (hS'.rdL 4 rfl) (by omega)) hs_26 ?_
          refine RP.evYes rfl rfl rfl rfl (rfl) rfl (fun w' hS' => Ev.ldL (E := encTx) scal9 rfl (hS'.rdL 4 rfl) hx (by decide) rfl) hs_26 ?_
          refine RP.evYes rfl rfl rfl rfl (rfl) rfl (fun w' hS' => Ev.strEql rfl rfl) hs_26 ?_
          refine RP.ev rfl rfl rfl (fun w' hS' => Ev.pickY rfl (rfl) rfl) hs_26 ?_
          refine RP.ev rfl rfl rfl (fun w' hS' => Ev.move rfl) hs_26 ?_
          refine RP.evYes rfl rfl rfl rfl (decide_eq_true (rfl)) rfl (fun w' hS' => Ev.move rfl) hs_26 ?_
          refine RP.evYes rfl rfl rfl rfl (decide_eq_true (rfl)) rfl (fun w' hS' => Ev.move rfl) hs_26 ?_
          refine RP.evYes rfl rfl rfl rfl (decide_eq_true (rfl)) rfl (fun w' hS' => Ev.fieldAddr fld51_1 rfl rfl) hs_26 ?_
          refine RP.evYes rfl rfl rfl rfl (decide_eq_true (rfl)) rfl (fun w' hS' => Ev.load scal22 rfl (hS'.cell (i := 6) (j := 1) rfl rfl)) hs_26 ?_
          refine RP.evYes rfl rfl rfl rfl (decide_eq_true (rfl)) rfl (fun w' hS' => Ev.move rfl) hs_26 ?_
          refine RP.evYes rfl rfl rfl rfl (decide_eq_true (rfl)) rfl (fun w' hS' => Ev.idxL (E := encN .i64) sl22 rfl rfl (hS'.rdL 5 rfl) (by rw [countsN_length]; omega)) hs_26 ?_
          refine RP.evYes rfl rfl rfl rfl (decide_eq_true (rfl)) rfl (fun w' hS' => Ev.ldL (E := encN .i64) scal3 rfl (hS'.rdL 5 rfl) hc (by decide) rfl) hs_26 ?_
          refine RP.effYes rfl rfl rfl rfl (decide_eq_true (rfl)) rfl (OpE.call ent40 rfl ((count_ok _ _ _ _ _ _ _ ((m : Nat) : Int) _ (hs_26.lexAt 0 1 2 3 rfl rfl rfl rfl)).mono fun r_17 w_19 h_17 => ?_))
          obtain ⟨rfl, hp_17⟩ := h_17
          have hs_27 : Sat w [cObj lg_1 92 [lvw_1, lvc_1, lvo_1], cL lvw_1 9 (encTx) (wordsN vs), cL lvc_1 3 (encN .i64) (countsN vs), cL lvo_1 3 (encN .i64) (ordN (wordsN vs)), cL rvw_1 9 (encTx) (wordsN vs), cL rvc_1 3 (encN .i64) (countsN vs), cObj b_1 51 [rvw_1, rvc_1]] _ := hs_26.adds hp_17
          have hS_3 : Sat w [cObj lg_1 92 [lvw_1, lvc_1, lvo_1], cL lvw_1 9 (encTx) (wordsN vs), cL lvc_1 3 (encN .i64) (countsN vs), cL lvo_1 3 (encN .i64) (ordN (wordsN vs)), cL rvw_1 9 (encTx) (wordsN vs), cL rvc_1 3 (encN .i64) (countsN vs), cObj b_1 51 [rvw_1, rvc_1]] _ := hs_27.sub ((.cons_cons _ (.cons_cons _ (.cons_cons _ (.cons_cons _ (.cons_cons _ (.cons_cons _ (.cons_cons _ .slnil))))))))
          refine ⟨hS_3, ?_⟩
          refine RP.evYes rfl rfl rfl rfl (decide_eq_true (rfl)) rfl (fun w' hS' => Ev.eqlN rfl rfl) hS_3 ?_
          refine RP.ev rfl rfl rfl (fun w' hS' => Ev.pickY rfl (decide_eq_true (rfl)) rfl) hS_3 ?_
          refine RP.ev rfl rfl rfl (fun w' hS' => Ev.move rfl) hS_3 ?_
          refine RP.effYes rfl rfl rfl rfl (decide_eq_true (countAt_get hc)) rfl (OpE.call ent33 rfl ((lawake_ok _).mono fun r_18 w_20 h_18 => ?_))
          obtain ⟨rfl, hp_18⟩ := h_18
          have hs_28 : Sat w [cObj lg_1 92 [lvw_1, lvc_1, lvo_1], cL lvw_1 9 (encTx) (wordsN vs), cL lvc_1 3 (encN .i64) (countsN vs), cL lvo_1 3 (encN .i64) (ordN (wordsN vs)), cL rvw_1 9 (encTx) (wordsN vs), cL rvc_1 3 (encN .i64) (countsN vs), cObj b_1 51 [rvw_1, rvc_1]] _ := hs_27.adds hp_18
          have hS_4 : Sat w [cObj lg_1 92 [lvw_1, lvc_1, lvo_1], cL lvw_1 9 (encTx) (wordsN vs), cL lvc_1 3 (encN .i64) (countsN vs), cL lvo_1 3 (encN .i64) (ordN (wordsN vs)), cL rvw_1 9 (encTx) (wordsN vs), cL rvc_1 3 (encN .i64) (countsN vs), cObj b_1 51 [rvw_1, rvc_1]] _ := hs_28.sub ((.cons_cons _ (.cons_cons _ (.cons_cons _ (.cons_cons _ (.cons_cons _ (.cons_cons _ (.cons_cons _ .slnil))))))))
          refine ⟨hS_4, ?_⟩
          refine RP.ev rfl rfl rfl (fun w' hS' => Ev.pickY rfl (decide_eq_true (countAt_get hc)) rfl) hS_4 ?_
          refine RP.ev rfl rfl rfl (fun w' hS' => Ev.assign rfl) hS_4 ?_
          refine RP.fin ?_
          refine CW.ret ?_
          show PostK _ _ _ _ _ _
          refine post1 rfl rfl ?_
          have hs_29 : Sat w [] w_20 := hs_28.sub ((.cons _ (.cons _ (.cons _ (.cons _ (.cons _ (.cons _ (.cons _ .slnil))))))))
          exact ⟨rfl, hs_29⟩
    · refine CW.region ?_
      refine RT.ev rfl rfl (Ev.move rfl) ?_
      refine RT.eff rfl rfl (OpE.call ent36 rfl ((built_err _ _ _ (hv.ext hs_1.ext) he).mono fun r_19 w_21 h_19 => ?_))
      obtain ⟨rfl, hp_19⟩ := h_19
      have hs_30 : Sat w [] _ := hs_1.adds hp_19
      refine RT.ev rfl rfl (Ev.move rfl) ?_
      refine RT.ev rfl rfl (Ev.extract rfl rfl) ?_
      refine RT.ev rfl rfl (Ev.extract rfl rfl) ?_
      refine RT.ev rfl rfl (Ev.extract rfl rfl) ?_
      refine RT.eff rfl rfl (OpE.alloc hs_30 zero51 fun b_2 w_22 hs_31 hch_3 hb_2 => ?_)
      have hs_31d : Sat w [cObj b_2 51 [(Value.slice none 0 0), (Value.slice none 0 0)]] _ := hs_31
      refine RT.ev rfl rfl (Ev.assign rfl) ?_
      refine RT.eff rfl rfl (OpE.storeObjA (vs := [(Value.slice none 0 0), (Value.slice none 0 0)]) agg51 hs_31d (i := 0) rfl rfl rfl rfl (fun v h => by simp only [List.mem_cons, List.not_mem_nil, or_false] at h; rcases h with rfl | rfl; exact rfl; exact rfl) fun w_23 hs_32 hch_4 => ?_)
      have hs_32d : Sat w [cObj b_2 51 [(Value.slice none 0 0), (Value.slice none 0 0)]] _ := hs_32
      refine RT.ev rfl rfl (Ev.assign rfl) ?_
      refine RT.nil ?_
      refine CW.seq ?_
      refine CW.seq ?_
      refine CW.region ?_
      refine RT.ev rfl rfl (Ev.move rfl) ?_
      refine RT.ev rfl rfl (Ev.notB rfl) ?_
      refine RT.ev rfl rfl (Ev.move rfl) ?_
      refine RT.yes rfl rfl rfl (rfl) ?_
      refine RT.ev rfl rfl (Ev.move rfl) ?_
      refine RT.yes rfl rfl rfl (rfl) ?_
      refine RT.ev rfl rfl (Ev.eqlPt Try.underlying46 rfl rfl) ?_
      refine RT.ev rfl rfl (Ev.pickN rfl (rfl) rfl) ?_
      refine RT.nil ?_
      refine CW.condT rfl (rfl) ?_
      refine CW.seq ?_
      refine CW.region ?_
      refine RT.ev rfl rfl (Ev.move rfl) ?_
      refine RT.ev rfl rfl (Ev.move rfl) ?_
      refine RT.yes rfl rfl rfl (rfl) ?_
      refine RT.eff rfl rfl (OpE.call ent33 rfl ((lawake_ok _).mono fun r_20 w_24 h_20 => ?_))
      obtain ⟨rfl, hp_20⟩ := h_20
      have hs_33 : Sat w [cObj b_2 51 [(Value.slice none 0 0), (Value.slice none 0 0)]] _ := hs_32d.adds hp_20
      refine RT.ev rfl rfl (Ev.pickY rfl (rfl) rfl) ?_
      refine RT.ev rfl rfl (Ev.assign rfl) ?_
      refine RT.nil ?_
      refine CW.ret ?_
      show PostK _ _ _ _ _ _
      refine post1 rfl rfl ?_
      have hs_34 : Sat w [] w_24 := hs_33.sub ((.cons _ .slnil))
      exact ⟨rfl, hs_34⟩

end Go.Proofs.Ytfhbflhnelbkfaa
