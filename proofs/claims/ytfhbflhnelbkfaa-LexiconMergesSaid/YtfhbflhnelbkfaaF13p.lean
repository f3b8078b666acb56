/- The walks of the functions of F13p, printed by our own program (kwgen.py) out of our descriptions (base.py). -/
import Derived.Test.YtfhbflhnelbkfaaF13q
import Derived.Test.YtfhbflhnelbkfaaTab
namespace Go.Proofs.Ytfhbflhnelbkfaa
open Go.RowKit Go.Kw
set_option maxRecDepth 100000
set_option linter.unusedVariables false
set_option linter.unusedSimpArgs false
theorem bld_chk {vs : List ByteArray} (h : bldE vs = 0) : chkN vs = 0 := by
  unfold bldE at h
  split at h
  · cases h
  · split at h
    · rename_i h1 h2; exact absurd h h2
    · rename_i h1 h2; exact Decidable.not_not.1 h2
theorem bld_sz {vs : List ByteArray} (h : bldE vs = 0) : ∀ x ∈ wordsN vs, x.size ≤ 1000000 := fun x hx => Nat.le_trans (chk_all (bld_chk h) x (wordsN_mem.1 hx)).1 (by decide)
theorem bld_ord {vs : List ByteArray} : ∀ x ∈ ordN (wordsN vs), x < (wordsN vs).length := fun x hx => ordN_mem.1 hx
theorem ord_len {vs : List ByteArray} (h : bldE vs = 0) : (ordN (wordsN vs)).length ≤ 1000000 := by rw [ordN_length]; exact bld_len h

theorem lexiconParts_ok (v : Value) (vs : List ByteArray) (s : ByteArray) (w : World) (hv : RdL w v encTx vs) (hn : vs.length ≤ 9223372036854775807) :
    CallsV Try.prog 12 [v, (Value.string s)] w fun r w' => r = .bool true ∧ Sat w [] w' := by
  have hs0 := Sat.start w
  refine callsV_of Try.func12 rfl rfl ?_
  refine CW.seq ?_
  refine CW.region ?_
  refine RT.ev rfl rfl (Ev.assign rfl) ?_
  refine RT.nil ?_
  refine CW.seq ?_
  refine CW.seq ?_
  refine CW.region ?_
  refine RT.ev rfl rfl (Ev.move rfl) ?_
  refine RT.eff rfl rfl (OpE.call ent35 rfl ((long_ok _ _ _ (hv.ext hs0.ext) (hn)).mono fun r_1 w_1 h_1 => ?_))
  obtain ⟨⟨lb_1, rfl⟩, hp_1⟩ := h_1
  have hs_1 : Sat w [] _ := hs0.adds hp_1
  refine RT.nil ?_
  refine CW.cond rfl (fun hc_1 => ?_) (fun hc_1 => ?_)
  · refine CW.seq ?_
    refine CW.region ?_
    refine RT.ev rfl rfl (Ev.assign rfl) ?_
    refine RT.nil ?_
    refine CW.ret ?_
    show PostK _ _ _ _ _ _
    refine post1 rfl rfl ?_
    have hs_2 : Sat w [] w_1 := hs_1.sub (.slnil)
    exact ⟨rfl, hs_2⟩
  · refine CW.skip ?_
    refine CW.seq ?_
    rcases Decidable.em (bldE vs = 0) with he | he
    · refine CW.region ?_
      refine RT.ev rfl rfl (Ev.move rfl) ?_
      refine RT.eff rfl rfl (OpE.call ent36 rfl ((built_good _ _ _ (hv.ext hs_1.ext) he).mono fun r_2 w_2 h_2 => ?_))
      obtain ⟨lg_1, lvw_1, lvc_1, lvo_1, rvw_1, rvc_1, rfl, hp_2⟩ := h_2
      have hs_3 : Sat w [cObj lg_1 92 [lvw_1, lvc_1, lvo_1], cL lvw_1 9 (encTx) (wordsN vs), cL lvc_1 3 (encN .i64) (countsN vs), cL lvo_1 3 (encN .i64) (ordN (wordsN vs)), cL rvw_1 9 (encTx) (wordsN vs), cL rvc_1 3 (encN .i64) (countsN vs)] _ := hs_1.adds hp_2
      refine RT.ev rfl rfl (Ev.move rfl) ?_
      refine RT.ev rfl rfl (Ev.extract rfl rfl) ?_
      refine RT.ev rfl rfl (Ev.extract rfl rfl) ?_
      refine RT.ev rfl rfl (Ev.extract rfl rfl) ?_
      refine RT.eff rfl rfl (OpE.alloc hs_3 zero51 fun b_1 w_3 hs_4 hch_1 hb_1 => ?_)
      have hs_4d : Sat w [cObj lg_1 92 [lvw_1, lvc_1, lvo_1], cL lvw_1 9 (encTx) (wordsN vs), cL lvc_1 3 (encN .i64) (countsN vs), cL lvo_1 3 (encN .i64) (ordN (wordsN vs)), cL rvw_1 9 (encTx) (wordsN vs), cL rvc_1 3 (encN .i64) (countsN vs), cObj b_1 51 [(Value.slice none 0 0), (Value.slice none 0 0)]] _ := hs_4
      refine RT.ev rfl rfl (Ev.assign rfl) ?_
      refine RT.eff rfl rfl (OpE.storeObjA (vs := [rvw_1, rvc_1]) agg51 hs_4d (i := 6) rfl rfl rfl rfl (fun v h => by simp only [List.mem_cons, List.not_mem_nil, or_false] at h; rcases h with rfl | rfl; exact (hs_4d.rdL 4 rfl).oneCell; exact (hs_4d.rdL 5 rfl).oneCell) fun w_4 hs_5 hch_2 => ?_)
      have hs_5d : Sat w [cObj lg_1 92 [lvw_1, lvc_1, lvo_1], cL lvw_1 9 (encTx) (wordsN vs), cL lvc_1 3 (encN .i64) (countsN vs), cL lvo_1 3 (encN .i64) (ordN (wordsN vs)), cL rvw_1 9 (encTx) (wordsN vs), cL rvc_1 3 (encN .i64) (countsN vs), cObj b_1 51 [rvw_1, rvc_1]] _ := hs_5
      refine RT.ev rfl rfl (Ev.assign rfl) ?_
      refine RT.nil ?_
      refine CW.seq ?_
      refine CW.seq ?_
      refine CW.region ?_
      refine RT.ev rfl rfl (Ev.move rfl) ?_
      refine RT.ev rfl rfl (Ev.notB rfl) ?_
      refine RT.ev rfl rfl (Ev.move rfl) ?_
      refine RT.yes rfl rfl rfl (rfl) ?_
      refine RT.ev rfl rfl (Ev.move rfl) ?_
      refine RT.yes rfl rfl rfl (rfl) ?_
      refine RT.ev rfl rfl (Ev.eqlPt Try.underlying46 rfl rfl) ?_
      refine RT.ev rfl rfl (Ev.pickN rfl (rfl) rfl) ?_
      refine RT.nil ?_
      refine CW.condF rfl (rfl) ?_
      refine CW.skip ?_
      refine CW.seq ?_
      refine CW.region ?_
      refine RT.ev rfl rfl (Ev.move rfl) ?_
      refine RT.ev rfl rfl (Ev.move rfl) ?_
      refine RT.eff rfl rfl (OpE.call ent41 rfl ((prefix_ok _ _ _ _ _ _ _ s _ (hs_5d.lexAt 0 1 2 3 rfl rfl rfl rfl) (wordsN_asc vs) (by have := bld_len he; omega)).mono fun r_3 w_5 h_3 => ?_))
      obtain ⟨rfl, hp_3⟩ := h_3
      have hs_6 : Sat w [cObj lg_1 92 [lvw_1, lvc_1, lvo_1], cL lvw_1 9 (encTx) (wordsN vs), cL lvc_1 3 (encN .i64) (countsN vs), cL lvo_1 3 (encN .i64) (ordN (wordsN vs)), cL rvw_1 9 (encTx) (wordsN vs), cL rvc_1 3 (encN .i64) (countsN vs), cObj b_1 51 [rvw_1, rvc_1]] _ := hs_5d.adds hp_3
      refine RT.ev rfl rfl (Ev.move rfl) ?_
      refine RT.ev rfl rfl (Ev.extract rfl rfl) ?_
      refine RT.ev rfl rfl (Ev.extract rfl rfl) ?_
      refine RT.ev rfl rfl (Ev.assign rfl) ?_
      refine RT.ev rfl rfl (Ev.assign rfl) ?_
      refine RT.nil ?_
      refine CW.seq ?_
      refine CW.region ?_
      refine RT.ev rfl rfl (Ev.ldObj agg51 rfl hs_6 (i := 6) rfl rfl) ?_
      refine RT.ev rfl rfl (Ev.move rfl) ?_
      refine RT.eff rfl rfl (OpE.call ent42 rfl ((rprefix_ok _ _ _ s _ (hs_6.rdL 4 rfl) ((hs_6.rdL 5 rfl).oneCell) (wordsN_asc vs) (bld_len he)).mono fun r_4 w_6 h_4 => ?_))
      obtain ⟨rfl, hp_4⟩ := h_4
      have hs_7 : Sat w [cObj lg_1 92 [lvw_1, lvc_1, lvo_1], cL lvw_1 9 (encTx) (wordsN vs), cL lvc_1 3 (encN .i64) (countsN vs), cL lvo_1 3 (encN .i64) (ordN (wordsN vs)), cL rvw_1 9 (encTx) (wordsN vs), cL rvc_1 3 (encN .i64) (countsN vs), cObj b_1 51 [rvw_1, rvc_1]] _ := hs_6.adds hp_4
      refine RT.ev rfl rfl (Ev.move rfl) ?_
      refine RT.ev rfl rfl (Ev.extract rfl rfl) ?_
      refine RT.ev rfl rfl (Ev.extract rfl rfl) ?_
      refine RT.ev rfl rfl (Ev.assign rfl) ?_
      refine RT.ev rfl rfl (Ev.assign rfl) ?_
      refine RT.nil ?_
      refine CW.seq ?_
      refine CW.draw (fun w' => Sat w [cObj lg_1 92 [lvw_1, lvc_1, lvo_1], cL lvw_1 9 (encTx) (wordsN vs), cL lvc_1 3 (encN .i64) (countsN vs), cL lvo_1 3 (encN .i64) (ordN (wordsN vs)), cL rvw_1 9 (encTx) (wordsN vs), cL rvc_1 3 (encN .i64) (countsN vs), cObj b_1 51 [rvw_1, rvc_1]] w') (.free 0 (.free 1 (.free 2 (.free 3 (.free 4 (.free 5 (.free 6 (.free 7 (.free 8 (.free 9 (.free 10 (.free 12 (.free 13 (.one 11 (.one 14 (.one 15 (.free 16 (.free 17 (.one 18 (.free 19 (.free 20 .fin))))))))))))))))))))) mixed (by kernel_rfl) ?_
      have hs_8 := hs_7.drew
      refine RP.ev rfl rfl rfl (fun w' hS' => Ev.move rfl) hs_8 ?_
      refine RP.ev rfl rfl rfl (fun w' hS' => Ev.move rfl) hs_8 ?_
      refine RP.ev rfl rfl rfl (fun w' hS' => Ev.eqlN rfl rfl) hs_8 ?_
      refine RP.ev rfl rfl rfl (fun w' hS' => Ev.move rfl) hs_8 ?_
      refine RP.evYes rfl rfl rfl rfl (decide_eq_true (rfl)) rfl (fun w' hS' => Ev.move rfl) hs_8 ?_
      refine RP.evYes rfl rfl rfl rfl (decide_eq_true (rfl)) rfl (fun w' hS' => Ev.move rfl) hs_8 ?_
      refine RP.evYes rfl rfl rfl rfl (decide_eq_true (rfl)) rfl (fun w' hS' => Ev.eqlN rfl rfl) hs_8 ?_
      refine RP.ev rfl rfl rfl (fun w' hS' => Ev.pickY rfl (decide_eq_true (rfl)) rfl) hs_8 ?_
      refine RP.ev rfl rfl rfl (fun w' hS' => Ev.move rfl) hs_8 ?_
      refine RP.evYes rfl rfl rfl rfl (decide_eq_true (rfl)) rfl (fun w' hS' => Ev.move rfl) hs_8 ?_
      refine RP.evYes rfl rfl rfl rfl (decide_eq_true (rfl)) rfl (fun w' hS' => Ev.move rfl) hs_8 ?_
      refine RP.evYes rfl rfl rfl rfl (decide_eq_true (rfl)) rfl (fun w' hS' => Ev.ldObj agg51 rfl hS' (i := 6) rfl rfl) hs_8 ?_
      refine RP.evYes rfl rfl rfl rfl (decide_eq_true (rfl)) rfl (fun w' hS' => Ev.move rfl) hs_8 ?_
      refine RP.effYes rfl rfl rfl rfl (decide_eq_true (rfl)) rfl (OpE.call ent43 rfl ((suffix_ok _ _ _ _ _ _ _ s _ (hs_8.lexAt 0 1 2 3 rfl rfl rfl rfl) (bld_ord) (bld_sz he) (ord_len he)).mono fun r_5 w_7 h_5 => ?_))
      have hp_5 := h_5
      have hs_9 : Sat w [cObj lg_1 92 [lvw_1, lvc_1, lvo_1], cL lvw_1 9 (encTx) (wordsN vs), cL lvc_1 3 (encN .i64) (countsN vs), cL lvo_1 3 (encN .i64) (ordN (wordsN vs)), cL rvw_1 9 (encTx) (wordsN vs), cL rvc_1 3 (encN .i64) (countsN vs), cObj b_1 51 [rvw_1, rvc_1], cL r_5 3 (encN .i64) (sufN (wordsN vs) (ordN (wordsN vs)) s)] _ := hs_8.adds hp_5
      have hS_1 : Sat w [cObj lg_1 92 [lvw_1, lvc_1, lvo_1], cL lvw_1 9 (encTx) (wordsN vs), cL lvc_1 3 (encN .i64) (countsN vs), cL lvo_1 3 (encN .i64) (ordN (wordsN vs)), cL rvw_1 9 (encTx) (wordsN vs), cL rvc_1 3 (encN .i64) (countsN vs), cObj b_1 51 [rvw_1, rvc_1]] _ := hs_9.sub ((.cons_cons _ (.cons_cons _ (.cons_cons _ (.cons_cons _ (.cons_cons _ (.cons_cons _ (.cons_cons _ (.cons _ .slnil)))))))))
      refine ⟨hS_1, ?_⟩
      refine RP.effYes rfl rfl rfl rfl (decide_eq_true (rfl)) rfl (OpE.call ent44 rfl ((rsuffix_ok _ _ _ s _ (hs_9.rdL 4 rfl) ((hs_9.rdL 5 rfl).oneCell) (wordsN_asc vs) (bld_len he) (bld_sz he)).mono fun r_6 w_8 h_6 => ?_))
      have hp_6 := h_6
      have hs_10 : Sat w [cObj lg_1 92 [lvw_1, lvc_1, lvo_1], cL lvw_1 9 (encTx) (wordsN vs), cL lvc_1 3 (encN .i64) (countsN vs), cL lvo_1 3 (encN .i64) (ordN (wordsN vs)), cL rvw_1 9 (encTx) (wordsN vs), cL rvc_1 3 (encN .i64) (countsN vs), cObj b_1 51 [rvw_1, rvc_1], cL r_5 3 (encN .i64) (sufN (wordsN vs) (ordN (wordsN vs)) s), cL r_6 3 (encN .i64) (sufN (wordsN vs) (ordN (wordsN vs)) s)] _ := hs_9.adds hp_6
      have hS_2 : Sat w [cObj lg_1 92 [lvw_1, lvc_1, lvo_1], cL lvw_1 9 (encTx) (wordsN vs), cL lvc_1 3 (encN .i64) (countsN vs), cL lvo_1 3 (encN .i64) (ordN (wordsN vs)), cL rvw_1 9 (encTx) (wordsN vs), cL rvc_1 3 (encN .i64) (countsN vs), cObj b_1 51 [rvw_1, rvc_1]] _ := hs_10.sub ((.cons_cons _ (.cons_cons _ (.cons_cons _ (.cons_cons _ (.cons_cons _ (.cons_cons _ (.cons_cons _ (.cons _ (.cons _ .slnil))))))))))
      refine ⟨hS_2, ?_⟩
      refine RP.effYes rfl rfl rfl rfl (decide_eq_true (rfl)) rfl (OpE.call ent26 rfl ((same_ok _ _ (sufN (wordsN vs) (ordN (wordsN vs)) s) (sufN (wordsN vs) (ordN (wordsN vs)) s) _ (hs_10.rdL 7 rfl) (hs_10.rdL 8 rfl) (by have h1 := ord_len he; have h2 : (sufN (wordsN vs) (ordN (wordsN vs)) s).length ≤ (ordN (wordsN vs)).length := List.length_filter_le _ _; omega)).mono fun r_7 w_9 h_7 => ?_))
      obtain ⟨rfl, hp_7⟩ := h_7
      have hs_11 : Sat w [cObj lg_1 92 [lvw_1, lvc_1, lvo_1], cL lvw_1 9 (encTx) (wordsN vs), cL lvc_1 3 (encN .i64) (countsN vs), cL lvo_1 3 (encN .i64) (ordN (wordsN vs)), cL rvw_1 9 (encTx) (wordsN vs), cL rvc_1 3 (encN .i64) (countsN vs), cObj b_1 51 [rvw_1, rvc_1], cL r_5 3 (encN .i64) (sufN (wordsN vs) (ordN (wordsN vs)) s), cL r_6 3 (encN .i64) (sufN (wordsN vs) (ordN (wordsN vs)) s)] _ := hs_10.adds hp_7
      have hS_3 : Sat w [cObj lg_1 92 [lvw_1, lvc_1, lvo_1], cL lvw_1 9 (encTx) (wordsN vs), cL lvc_1 3 (encN .i64) (countsN vs), cL lvo_1 3 (encN .i64) (ordN (wordsN vs)), cL rvw_1 9 (encTx) (wordsN vs), cL rvc_1 3 (encN .i64) (countsN vs), cObj b_1 51 [rvw_1, rvc_1]] _ := hs_11.sub ((.cons_cons _ (.cons_cons _ (.cons_cons _ (.cons_cons _ (.cons_cons _ (.cons_cons _ (.cons_cons _ (.cons _ (.cons _ .slnil))))))))))
      refine ⟨hS_3, ?_⟩
      refine RP.ev rfl rfl rfl (fun w' hS' => Ev.pickY rfl (decide_eq_true (rfl)) rfl) hS_3 ?_
      refine RP.ev rfl rfl rfl (fun w' hS' => Ev.move rfl) hS_3 ?_
      refine RP.effYes rfl rfl rfl rfl (decide_eq_true rfl) rfl (OpE.call ent33 rfl ((lawake_ok _).mono fun r_8 w_10 h_8 => ?_))
      obtain ⟨rfl, hp_8⟩ := h_8
      have hs_12 : Sat w [cObj lg_1 92 [lvw_1, lvc_1, lvo_1], cL lvw_1 9 (encTx) (wordsN vs), cL lvc_1 3 (encN .i64) (countsN vs), cL lvo_1 3 (encN .i64) (ordN (wordsN vs)), cL rvw_1 9 (encTx) (wordsN vs), cL rvc_1 3 (encN .i64) (countsN vs), cObj b_1 51 [rvw_1, rvc_1], cL r_5 3 (encN .i64) (sufN (wordsN vs) (ordN (wordsN vs)) s), cL r_6 3 (encN .i64) (sufN (wordsN vs) (ordN (wordsN vs)) s)] _ := hs_11.adds hp_8
      have hS_4 : Sat w [cObj lg_1 92 [lvw_1, lvc_1, lvo_1], cL lvw_1 9 (encTx) (wordsN vs), cL lvc_1 3 (encN .i64) (countsN vs), cL lvo_1 3 (encN .i64) (ordN (wordsN vs)), cL rvw_1 9 (encTx) (wordsN vs), cL rvc_1 3 (encN .i64) (countsN vs), cObj b_1 51 [rvw_1, rvc_1]] _ := hs_12.sub ((.cons_cons _ (.cons_cons _ (.cons_cons _ (.cons_cons _ (.cons_cons _ (.cons_cons _ (.cons_cons _ (.cons _ (.cons _ .slnil))))))))))
      refine ⟨hS_4, ?_⟩
      refine RP.ev rfl rfl rfl (fun w' hS' => Ev.pickY rfl (decide_eq_true rfl) rfl) hS_4 ?_
      refine RP.ev rfl rfl rfl (fun w' hS' => Ev.assign rfl) hS_4 ?_
      refine RP.fin ?_
      refine CW.ret ?_
      show PostK _ _ _ _ _ _
      refine post1 rfl rfl ?_
      have hs_13 : Sat w [] w_10 := hs_12.sub ((.cons _ (.cons _ (.cons _ (.cons _ (.cons _ (.cons _ (.cons _ (.cons _ (.cons _ .slnil))))))))))
      exact ⟨rfl, hs_13⟩
    · refine CW.region ?_
      refine RT.ev rfl rfl (Ev.move rfl) ?_
      refine RT.eff rfl rfl (OpE.call ent36 rfl ((built_err _ _ _ (hv.ext hs_1.ext) he).mono fun r_9 w_11 h_9 => ?_))
      obtain ⟨rfl, hp_9⟩ := h_9
      have hs_14 : Sat w [] _ := hs_1.adds hp_9
      refine RT.ev rfl rfl (Ev.move rfl) ?_
      refine RT.ev rfl rfl (Ev.extract rfl rfl) ?_
      refine RT.ev rfl rfl (Ev.extract rfl rfl) ?_
      refine RT.ev rfl rfl (Ev.extract rfl rfl) ?_
      refine RT.eff rfl rfl (OpE.alloc hs_14 zero51 fun b_2 w_12 hs_15 hch_3 hb_2 => ?_)
      have hs_15d : Sat w [cObj b_2 51 [(Value.slice none 0 0), (Value.slice none 0 0)]] _ := hs_15
      refine RT.ev rfl rfl (Ev.assign rfl) ?_
      refine RT.eff rfl rfl (OpE.storeObjA (vs := [(Value.slice none 0 0), (Value.slice none 0 0)]) agg51 hs_15d (i := 0) rfl rfl rfl rfl (fun v h => by simp only [List.mem_cons, List.not_mem_nil, or_false] at h; rcases h with rfl | rfl; exact rfl; exact rfl) fun w_13 hs_16 hch_4 => ?_)
      have hs_16d : Sat w [cObj b_2 51 [(Value.slice none 0 0), (Value.slice none 0 0)]] _ := hs_16
      refine RT.ev rfl rfl (Ev.assign rfl) ?_
      refine RT.nil ?_
      refine CW.seq ?_
      refine CW.seq ?_
      refine CW.region ?_
      refine RT.ev rfl rfl (Ev.move rfl) ?_
      refine RT.ev rfl rfl (Ev.notB rfl) ?_
      refine RT.ev rfl rfl (Ev.move rfl) ?_
      refine RT.yes rfl rfl rfl (rfl) ?_
      refine RT.ev rfl rfl (Ev.move rfl) ?_
      refine RT.yes rfl rfl rfl (rfl) ?_
      refine RT.ev rfl rfl (Ev.eqlPt Try.underlying46 rfl rfl) ?_
      refine RT.ev rfl rfl (Ev.pickN rfl (rfl) rfl) ?_
      refine RT.nil ?_
      refine CW.condT rfl (rfl) ?_
      refine CW.seq ?_
      refine CW.region ?_
      refine RT.ev rfl rfl (Ev.move rfl) ?_
      refine RT.ev rfl rfl (Ev.move rfl) ?_
      refine RT.yes rfl rfl rfl (rfl) ?_
      refine RT.eff rfl rfl (OpE.call ent33 rfl ((lawake_ok _).mono fun r_10 w_14 h_10 => ?_))
      obtain ⟨rfl, hp_10⟩ := h_10
      have hs_17 : Sat w [cObj b_2 51 [(Value.slice none 0 0), (Value.slice none 0 0)]] _ := hs_16d.adds hp_10
      refine RT.ev rfl rfl (Ev.pickY rfl (rfl) rfl) ?_
      refine RT.ev rfl rfl (Ev.assign rfl) ?_
      refine RT.nil ?_
      refine CW.ret ?_
      show PostK _ _ _ _ _ _
      refine post1 rfl rfl ?_
      have hs_18 : Sat w [] w_14 := hs_17.sub ((.cons _ .slnil))
      exact ⟨rfl, hs_18⟩

end Go.Proofs.Ytfhbflhnelbkfaa
