/- The walks of the functions of F13w, printed by our own program (kwgen.py) out of our descriptions (base.py). -/
import Derived.Test.YtfhbflhnelbkfaaF13x
import Derived.Test.YtfhbflhnelbkfaaTab
namespace Go.Proofs.Ytfhbflhnelbkfaa
open Go.RowKit Go.Kw
set_option maxRecDepth 100000
set_option linter.unusedVariables false
set_option linter.unusedSimpArgs false
theorem lexiconDecodes_ok (v : Value) (b : List Nat) (w : World) (hv : RdL w v (encN .u8) b) (hb : ∀ x ∈ b, x < 256) (hn : b.length ≤ 9223372036854775807) :
    CallsV Try.prog 18 [v] w fun r w' => r = .bool true ∧ Sat w [] w' := by
  have hs0 := Sat.start w
  refine callsV_of Try.func18 rfl rfl ?_
  refine CW.seq ?_
  refine CW.region ?_
  refine RT.ev rfl rfl (Ev.assign rfl) ?_
  refine RT.nil ?_
  refine CW.seq ?_
  refine CW.seq ?_
  refine CW.region ?_
  refine RT.ev rfl rfl (Ev.move rfl) ?_
  refine RT.ev rfl rfl (Ev.lenL Try.underlying40 rfl (hv.ext hs0.ext)) ?_
  refine RT.ev rfl rfl (Ev.gtrN (b := 1500) rfl rfl) ?_
  refine RT.nil ?_
  refine CW.condD rfl (fun hc_1 => ?_) (fun hc_1 => ?_)
  · refine CW.seq ?_
    refine CW.region ?_
    refine RT.ev rfl rfl (Ev.assign rfl) ?_
    refine RT.nil ?_
    refine CW.ret ?_
    show PostK _ _ _ _ _ _
    refine post1 rfl rfl ?_
    have hs_1 : Sat w [] w := hs0.sub (.slnil)
    exact ⟨rfl, hs_1⟩
  · refine CW.skip ?_
    refine CW.seq ?_
    rcases Classical.em (∃ W C, OkLex W C ∧ b = sealN (encA W C W.length)) with hgd | hgd
    · obtain ⟨W, C, ⟨hok, hCl, hsz, hC, hsum, hWn⟩, heb⟩ := hgd
      refine CW.region ?_
      refine RT.ev rfl rfl (Ev.move rfl) ?_
      refine RT.eff rfl rfl (OpE.call ent51 rfl ((ldec_ok _ b W C _ (hv.ext hs0.ext) heb hok hCl hsz hC hsum hWn).mono fun r_1 w_1 h_1 => ?_))
      obtain ⟨dg_1, dvw_1, dvc_1, dvo_1, rfl, hp_1⟩ := h_1
      have hs_2 : Sat w [cObj dg_1 92 [dvw_1, dvc_1, dvo_1], cL dvw_1 9 (encTx) (W), cL dvc_1 3 (encN .i64) (C), cL dvo_1 3 (encN .i64) (ordN W)] _ := hs0.adds hp_1
      refine RT.ev rfl rfl (Ev.move rfl) ?_
      refine RT.ev rfl rfl (Ev.extract rfl rfl) ?_
      refine RT.ev rfl rfl (Ev.extract rfl rfl) ?_
      refine RT.ev rfl rfl (Ev.assign rfl) ?_
      refine RT.ev rfl rfl (Ev.assign rfl) ?_
      refine RT.nil ?_
      refine CW.seq ?_
      refine CW.region ?_
      refine RT.ev rfl rfl (Ev.move rfl) ?_
      refine RT.eff rfl rfl (OpE.call ent53 rfl ((rdec_ok _ b _ W C _ (hv.ext hs_2.ext) hb (by omega) heb (encA_all hCl) hok hCl hsz hC hsum hWn).mono fun r_2 w_2 h_2 => ?_))
      obtain ⟨rvw_1, rvc_1, rfl, hp_2⟩ := h_2
      have hs_3 : Sat w [cObj dg_1 92 [dvw_1, dvc_1, dvo_1], cL dvw_1 9 (encTx) (W), cL dvc_1 3 (encN .i64) (C), cL dvo_1 3 (encN .i64) (ordN W), cL rvw_1 9 (encTx) (W), cL rvc_1 3 (encN .i64) (C)] _ := hs_2.adds hp_2
      refine RT.ev rfl rfl (Ev.move rfl) ?_
      refine RT.ev rfl rfl (Ev.extract rfl rfl) ?_
      refine RT.ev rfl rfl (Ev.extract rfl rfl) ?_
      refine RT.eff rfl rfl (OpE.alloc hs_3 zero51 fun b_1 w_3 hs_4 hch_1 hb_1 => ?_)
      have hs_4d : Sat w [cObj dg_1 92 [dvw_1, dvc_1, dvo_1], cL dvw_1 9 (encTx) (W), cL dvc_1 3 (encN .i64) (C), cL dvo_1 3 (encN .i64) (ordN W), cL rvw_1 9 (encTx) (W), cL rvc_1 3 (encN .i64) (C), cObj b_1 51 [(Value.slice none 0 0), (Value.slice none 0 0)]] _ := hs_4
      refine RT.eff rfl rfl (OpE.storeObjA (vs := [rvw_1, rvc_1]) agg51 hs_4d (i := 6) rfl rfl rfl rfl (fun v h => by simp only [List.mem_cons, List.not_mem_nil, or_false] at h; rcases h with rfl | rfl; exact (hs_4d.rdL 4 rfl).oneCell; exact (hs_4d.rdL 5 rfl).oneCell) fun w_4 hs_5 hch_2 => ?_)
      have hs_5d : Sat w [cObj dg_1 92 [dvw_1, dvc_1, dvo_1], cL dvw_1 9 (encTx) (W), cL dvc_1 3 (encN .i64) (C), cL dvo_1 3 (encN .i64) (ordN W), cL rvw_1 9 (encTx) (W), cL rvc_1 3 (encN .i64) (C), cObj b_1 51 [rvw_1, rvc_1]] _ := hs_5
      refine RT.ev rfl rfl (Ev.assign rfl) ?_
      refine RT.nil ?_
      refine CW.seq ?_
      refine CW.seq ?_
      refine CW.region ?_
      refine RT.ev rfl rfl (Ev.move rfl) ?_
      refine RT.ev rfl rfl (Ev.notB rfl) ?_
      refine RT.nil ?_
      refine CW.condF rfl (rfl) ?_
      refine CW.skip ?_
      refine CW.seq ?_
      refine CW.draw (fun w' => Sat w [cObj dg_1 92 [dvw_1, dvc_1, dvo_1], cL dvw_1 9 (encTx) (W), cL dvc_1 3 (encN .i64) (C), cL dvo_1 3 (encN .i64) (ordN W), cL rvw_1 9 (encTx) (W), cL rvc_1 3 (encN .i64) (C), cObj b_1 51 [rvw_1, rvc_1]] w') (.free 0 (.free 1 (.free 2 (.free 3 (.free 4 (.one 5 (.free 6 (.free 7 (.free 8 (.free 11 (.free 12 (.one 9 (.one 10 (.free 13 (.free 14 (.free 15 (.one 16 (.free 17 (.free 18 .fin))))))))))))))))))) mixed (by kernel_rfl) ?_
      have hs_6 := hs_5d.drew
      refine RP.ev rfl rfl rfl (fun w' hS' => Ev.move rfl) hs_6 ?_
      refine RP.ev rfl rfl rfl (fun w' hS' => Ev.eqlN (a := 0) (b := 0) rfl rfl) hs_6 ?_
      refine RP.ev rfl rfl rfl (fun w' hS' => Ev.move rfl) hs_6 ?_
      refine RP.evYes rfl rfl rfl rfl (rfl) rfl (fun w' hS' => Ev.move rfl) hs_6 ?_
      refine RP.evYes rfl rfl rfl rfl (rfl) rfl (fun w' hS' => Ev.ldObj agg51 rfl hS' (i := 6) rfl rfl) hs_6 ?_
      refine RP.effYes rfl rfl rfl rfl (rfl) rfl (OpE.call ent49 rfl ((lsame_ok _ _ _ _ _ _ _ _ _ _ (hs_6.lexAt 0 1 2 3 rfl rfl rfl rfl) (hs_6.rdL 4 rfl) (hs_6.rdL 5 rfl) (hCl) (by omega)).mono fun r_3 w_5 h_3 => ?_))
      obtain ⟨rfl, hp_3⟩ := h_3
      have hs_7 : Sat w [cObj dg_1 92 [dvw_1, dvc_1, dvo_1], cL dvw_1 9 (encTx) (W), cL dvc_1 3 (encN .i64) (C), cL dvo_1 3 (encN .i64) (ordN W), cL rvw_1 9 (encTx) (W), cL rvc_1 3 (encN .i64) (C), cObj b_1 51 [rvw_1, rvc_1]] _ := hs_6.adds hp_3
      have hS_1 : Sat w [cObj dg_1 92 [dvw_1, dvc_1, dvo_1], cL dvw_1 9 (encTx) (W), cL dvc_1 3 (encN .i64) (C), cL dvo_1 3 (encN .i64) (ordN W), cL rvw_1 9 (encTx) (W), cL rvc_1 3 (encN .i64) (C), cObj b_1 51 [rvw_1, rvc_1]] _ := hs_7.sub ((.cons_cons _ (.cons_cons _ (.cons_cons _ (.cons_cons _ (.cons_cons _ (.cons_cons _ (.cons_cons _ .slnil))))))))
      refine ⟨hS_1, ?_⟩
      refine RP.ev rfl rfl rfl (fun w' hS' => Ev.pickY rfl (rfl) rfl) hS_1 ?_
      refine RP.ev rfl rfl rfl (fun w' hS' => Ev.move rfl) hS_1 ?_
      refine RP.evYes rfl rfl rfl rfl (rfl) rfl (fun w' hS' => Ev.move rfl) hS_1 ?_
      refine RP.evYes rfl rfl rfl rfl (rfl) rfl (fun w' hS' => Ev.move rfl) hS_1 ?_
      refine RP.evYes rfl rfl rfl rfl (rfl) rfl (fun w' hS' => Ev.bytesStr Try.underlying40 Try.underlying9 Try.underlying5 rfl (hv.ext hS'.ext)) hS_1 ?_
      refine RP.effYes rfl rfl rfl rfl (rfl) rfl (OpE.call ent50 rfl ((lexEnc_ok _ _ _ _ _ _ _ _ (hs_7.lexAt 0 1 2 3 rfl rfl rfl rfl) hCl hsz (fun c hc => ⟨(hC c hc).1, by have := (hC c hc).2; omega⟩) (by omega)).mono fun r_4 w_6 h_4 => ?_))
      have hp_4 := h_4
      have hs_8 : Sat w [cObj dg_1 92 [dvw_1, dvc_1, dvo_1], cL dvw_1 9 (encTx) (W), cL dvc_1 3 (encN .i64) (C), cL dvo_1 3 (encN .i64) (ordN W), cL rvw_1 9 (encTx) (W), cL rvc_1 3 (encN .i64) (C), cObj b_1 51 [rvw_1, rvc_1], cL r_4 5 (encN .u8) (sealN (encA W C W.length))] _ := hs_7.adds hp_4
      have hS_2 : Sat w [cObj dg_1 92 [dvw_1, dvc_1, dvo_1], cL dvw_1 9 (encTx) (W), cL dvc_1 3 (encN .i64) (C), cL dvo_1 3 (encN .i64) (ordN W), cL rvw_1 9 (encTx) (W), cL rvc_1 3 (encN .i64) (C), cObj b_1 51 [rvw_1, rvc_1]] _ := hs_8.sub ((.cons_cons _ (.cons_cons _ (.cons_cons _ (.cons_cons _ (.cons_cons _ (.cons_cons _ (.cons_cons _ (.cons _ .slnil)))))))))
      refine ⟨hS_2, ?_⟩
      refine RP.effYes rfl rfl rfl rfl (rfl) rfl (OpE.ev (Ev.bytesStr Try.underlying40 Try.underlying9 Try.underlying5 rfl (hs_8.rdL 7 rfl)) ⟨hS_2, ?_⟩)
      refine RP.evYes rfl rfl rfl rfl (rfl) rfl (fun w' hS' => Ev.strEql rfl rfl) hS_2 ?_
      refine RP.ev rfl rfl rfl (fun w' hS' => Ev.pickY rfl (rfl) rfl) hS_2 ?_
      refine RP.ev rfl rfl rfl (fun w' hS' => Ev.move rfl) hS_2 ?_
      refine RP.effYes rfl rfl rfl rfl (decide_eq_true (by rw [← heb])) rfl (OpE.call ent33 rfl ((lawake_ok _).mono fun r_5 w_7 h_5 => ?_))
      obtain ⟨rfl, hp_5⟩ := h_5
      have hs_9 : Sat w [cObj dg_1 92 [dvw_1, dvc_1, dvo_1], cL dvw_1 9 (encTx) (W), cL dvc_1 3 (encN .i64) (C), cL dvo_1 3 (encN .i64) (ordN W), cL rvw_1 9 (encTx) (W), cL rvc_1 3 (encN .i64) (C), cObj b_1 51 [rvw_1, rvc_1], cL r_4 5 (encN .u8) (sealN (encA W C W.length))] _ := hs_8.adds hp_5
      have hS_3 : Sat w [cObj dg_1 92 [dvw_1, dvc_1, dvo_1], cL dvw_1 9 (encTx) (W), cL dvc_1 3 (encN .i64) (C), cL dvo_1 3 (encN .i64) (ordN W), cL rvw_1 9 (encTx) (W), cL rvc_1 3 (encN .i64) (C), cObj b_1 51 [rvw_1, rvc_1]] _ := hs_9.sub ((.cons_cons _ (.cons_cons _ (.cons_cons _ (.cons_cons _ (.cons_cons _ (.cons_cons _ (.cons_cons _ (.cons _ .slnil)))))))))
      refine ⟨hS_3, ?_⟩
      refine RP.ev rfl rfl rfl (fun w' hS' => Ev.pickY rfl (decide_eq_true (by rw [← heb])) rfl) hS_3 ?_
      refine RP.ev rfl rfl rfl (fun w' hS' => Ev.assign rfl) hS_3 ?_
      refine RP.fin ?_
      refine CW.ret ?_
      show PostK _ _ _ _ _ _
      refine post1 rfl rfl ?_
      have hs_10 : Sat w [] w_7 := hs_9.sub ((.cons _ (.cons _ (.cons _ (.cons _ (.cons _ (.cons _ (.cons _ (.cons _ .slnil)))))))))
      exact ⟨rfl, hs_10⟩
    · refine CW.region ?_
      refine RT.ev rfl rfl (Ev.move rfl) ?_
      refine RT.eff rfl rfl (OpE.call ent51 rfl ((ldec_no _ b _ (hv.ext hs0.ext) hb (by omega) hgd).mono fun r_6 w_8 h_6 => ?_))
      obtain ⟨rfl, hp_6⟩ := h_6
      have hs_11 : Sat w [] _ := hs0.adds hp_6
      refine RT.ev rfl rfl (Ev.move rfl) ?_
      refine RT.ev rfl rfl (Ev.extract rfl rfl) ?_
      refine RT.ev rfl rfl (Ev.extract rfl rfl) ?_
      refine RT.ev rfl rfl (Ev.assign rfl) ?_
      refine RT.ev rfl rfl (Ev.assign rfl) ?_
      refine RT.nil ?_
      refine CW.seq ?_
      refine CW.region ?_
      refine RT.ev rfl rfl (Ev.move rfl) ?_
      refine RT.eff rfl rfl (OpE.call ent53 rfl ((rdec_no _ b _ (hv.ext hs_11.ext) hb (by omega) hgd).mono fun r_7 w_9 h_7 => ?_))
      obtain ⟨rx_1, ry_1, hrx_1, hry_1, rfl, hp_7⟩ := h_7
      have hs_12 : Sat w [] _ := hs_11.adds hp_7
      refine RT.ev rfl rfl (Ev.move rfl) ?_
      refine RT.ev rfl rfl (Ev.extract rfl rfl) ?_
      refine RT.ev rfl rfl (Ev.extract rfl rfl) ?_
      refine RT.eff rfl rfl (OpE.alloc hs_12 zero51 fun b_2 w_10 hs_13 hch_3 hb_2 => ?_)
      have hs_13d : Sat w [cObj b_2 51 [(Value.slice none 0 0), (Value.slice none 0 0)]] _ := hs_13
      refine RT.eff rfl rfl (OpE.storeObjA (vs := [rx_1, ry_1]) agg51 hs_13d (i := 0) rfl rfl rfl rfl (fun v h => by simp only [List.mem_cons, List.not_mem_nil, or_false] at h; rcases h with rfl | rfl; exact hrx_1; exact hry_1) fun w_11 hs_14 hch_4 => ?_)
      have hs_14d : Sat w [cObj b_2 51 [rx_1, ry_1]] _ := hs_14
      refine RT.ev rfl rfl (Ev.assign rfl) ?_
      refine RT.nil ?_
      refine CW.seq ?_
      refine CW.seq ?_
      refine CW.region ?_
      refine RT.ev rfl rfl (Ev.move rfl) ?_
      refine RT.ev rfl rfl (Ev.notB rfl) ?_
      refine RT.nil ?_
      refine CW.condT rfl (rfl) ?_
      refine CW.seq ?_
      refine CW.region ?_
      refine RT.ev rfl rfl (Ev.move rfl) ?_
      refine RT.ev rfl rfl (Ev.eqlN (a := 9) (b := 9) rfl rfl) ?_
      refine RT.ev rfl rfl (Ev.move rfl) ?_
      refine RT.yes rfl rfl rfl (rfl) ?_
      refine RT.ev rfl rfl (Ev.move rfl) ?_
      refine RT.yes rfl rfl rfl (rfl) ?_
      refine RT.ev rfl rfl (Ev.eqlPt Try.underlying46 rfl rfl) ?_
      refine RT.ev rfl rfl (Ev.pickY rfl (rfl) rfl) ?_
      refine RT.ev rfl rfl (Ev.move rfl) ?_
      refine RT.yes rfl rfl rfl (rfl) ?_
      refine RT.eff rfl rfl (OpE.call ent33 rfl ((lawake_ok _).mono fun r_8 w_12 h_8 => ?_))
      obtain ⟨rfl, hp_8⟩ := h_8
      have hs_15 : Sat w [cObj b_2 51 [rx_1, ry_1]] _ := hs_14d.adds hp_8
      refine RT.ev rfl rfl (Ev.pickY rfl (rfl) rfl) ?_
      refine RT.ev rfl rfl (Ev.assign rfl) ?_
      refine RT.nil ?_
      refine CW.ret ?_
      show PostK _ _ _ _ _ _
      refine post1 rfl rfl ?_
      have hs_16 : Sat w [] w_12 := hs_15.sub ((.cons _ .slnil))
      exact ⟨rfl, hs_16⟩

end Go.Proofs.Ytfhbflhnelbkfaa
