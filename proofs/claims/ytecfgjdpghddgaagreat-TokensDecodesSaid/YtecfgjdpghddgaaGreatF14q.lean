/- The walks of the functions of F14q, printed by our own program (kwgen.py) out of our descriptions (base.py). -/
import Derived.Test.YtecfgjdpghddgaaGreatF14p
import Derived.Test.YtecfgjdpghddgaaGreatM14q
import Derived.Test.YtecfgjdpghddgaaGreatTab
set_option linter.unusedVariables false
set_option linter.unusedSimpArgs false
set_option linter.unusedSectionVars false
namespace Go.Proofs.YtecfgjdpghddgaaGreat
open Go.RowKit Go.Kw
set_option maxRecDepth 100000
set_option maxHeartbeats 2000000 in
theorem rlengths_ok (v : Value) (c : List Nat) (w : World) (hv : RdL w v (encN .i64) c) (hn : c.length ≤ 1024) (hc : ∀ x ∈ c, x ≤ 4096) :
    CallsV Tryz.prog 82 [v, (.int .i64 (15 : Nat))] w fun r w' => ∃ v', r = .tuple #[v', .int .i64 ((0 : Nat) : Int)] ∧ Sat w [cL v' 3 (encN .i64) (lensN c)] w' := by
  have hs0 := Sat.start w
  refine callsV_of Tryz.func82 rfl rfl ?_
  refine .seq <| .region <| .s rfl rfl <| .s rfl rfl <| .nil <| .seq <| .seq <| .region <| .m rfl rfl <| .m rfl rfl <| .f rfl (.call ent118 rfl ((rlcheck_ok _ (c) _ (hv.ext hs0.ext) (hn) (hc)).mono fun r_1 w_1 h_1 => ?_))
  obtain ⟨rfl, hp_1⟩ := h_1
  have hs_1 := hs0.adds hp_1
  refine .s rfl rfl <| .nil <| .seq <| .region <| .m rfl rfl <| .e rfl (.neqN (a := 0) (b := 0) rfl rfl) <| .nil <| .condF rfl (decide_eq_false (by omega)) <| .skip <| .seq <| .region <| .m rfl rfl <| .e rfl (.lenL Tryz.underlying27 rfl (hv.ext hs_1.ext)) <| .f rfl (.makeL (encN .i64) (0) sl27 rfl hs_1 rfl rfl (by omega) (by omega) (by omega) fun v_1 w_2 hs_2 hch_1 => ?_)
  refine .s rfl rfl <| .nil <| .seq <| .region <| .s rfl rfl <| .nil <| .seq <| .seq <| .region <| .m rfl rfl <| .e rfl (.lenL Tryz.underlying27 rfl (hv.ext hs_2.ext)) <| .m rfl rfl <| .nil <| .block ?_
  have hs_3 : Sat w [_, cL (Value.slice none 0 0) 174 (encRI) ([])] _ := hs_2.newNilL 174 (encRI)
  have hs_4 : Sat w [cL v_1 3 (encN .i64) (oneT c 0), cL (Value.slice none 0 0) 174 (encRI) ([])] w_2 := by
    have hq : List.replicate (c.length) 0 = oneT c 0 := by simp [oneT, oneZ]
    rw [← hq]; exact hs_3
  have hs_5 : Sat w [cL v_1 3 (encN .i64) (oneT c 0), cL (Value.slice none 0 0) 174 (encRI) ([]), cPool ([])] w_2 := hs_4.newPool
  refine .loop (α := Nat × Value × List RI × List RI) (fun (k, lvv, lv, pool) => [(0, v), (1, (.int .i64 (15 : Nat))), (7, v_1), (8, lvv), (31, v), (32, (.int .i64 c.length)), (33, (.int .i64 k))]) (fun (k, lvv, lv, pool) w' => Sat w [cL v_1 3 (encN .i64) (oneT c k), cL lvv 174 (encRI) (lv), cPool (pool)] w' ∧ (k ≤ c.length) ∧ (lv.map wo = (ssort It.w (leafAt 0 (c.take k))).map (eIt c.length)) ∧ (∀ x ∈ lv, x ∈ pool)) (fun (k, lvv, lv, pool) => c.length - k) (0, (.slice none 0 0), [], []) ⟨rfl, rfl, rfl, rfl, rfl, rfl, rfl, trivial⟩ ⟨hs_5, Nat.zero_le _, rfl, fun _ h => h⟩ ?_
  rintro ⟨k, lvv, lv, pool⟩ w_3 ⟨hs_6, hk, hlv, hin0⟩
  show CW _ _ _ _ [(0, v), (1, (.int .i64 (15 : Nat))), (7, v_1), (8, lvv), (31, v), (32, (.int .i64 c.length)), (33, (.int .i64 k))] _
  have hlvl : lv.length ≤ k := by have h1 := congrArg List.length hlv; have h2 := leafAt_length (c.take k) 0; simp only [List.length_map, ssort_length, List.length_take] at h1 h2; omega
  refine .seq <| .region <| .e rfl (.lssN rfl rfl) <| .nil <| .seq <| .condD rfl (fun hc_1 => ?_) (fun hc_1 => ?_)
  · refine .skip <| .seq <| .block <| .seq ?_
    obtain ⟨x, hx⟩ : ∃ x, (c)[k]? = some x := ⟨_, List.getElem?_eq_getElem hc_1⟩
    refine .region <| .m rfl rfl <| .e rfl (.idxL (E := encN .i64) sl27 rfl rfl (hv.ext hs_6.ext) (by omega)) <| .e rfl (.ldL (E := encN .i64) scal3 rfl (hv.ext hs_6.ext) hx (by decide) rfl) <| .s rfl rfl <| .s rfl rfl <| .nil <| .seq <| .seq <| .region <| .m rfl rfl <| .e rfl (.eqlN (b := 0) rfl rfl) <| .nil <| .condD rfl (fun hc_2 => ?_) (fun hc_2 => ?_)
    · refine .exit0 <| .region <| .e rfl (.addI (b := 1) rfl rfl (by omega)) <| .m rfl rfl <| .nil ?_
      have hs_7 : Sat w [cL v_1 3 (encN .i64) (oneT c (k + 1)), cL lvv 174 (encRI) (lv), cPool (pool)] w_3 := by
        have hq : oneT c k = oneT c (k + 1) := by rw [oneT_skip hx hc_2]
        rw [← hq]; exact hs_6
      have hs_8 : Sat w [_, _, _] w_3 := hs_7.sub ((.cons_cons _ (.cons_cons _ (.cons_cons _ .slnil))))
      exact ⟨(k + 1, lvv, lv, pool), ⟨rfl, rfl, rfl, rfl, rfl, rfl, rfl, trivial⟩, ⟨hs_8, by omega, by rw [leaf_skip hx hc_2]; exact hlv, hin0⟩, (show (c.length - (k + 1)) < (c.length - k) from by omega)⟩
    · refine .skip <| .seq <| .region <| .m rfl rfl <| .m rfl rfl <| .e rfl (.lenL Tryz.underlying27 rfl (hv.ext hs_6.ext)) <| .f rfl (.makeL (encN .i64) (0) sl27 rfl hs_6 rfl rfl (by omega) (by omega) (by omega) fun v_2 w_4 hs_9 hch_2 => ?_)
      obtain ⟨sv_1, hsv_1, hsv_1n⟩ := (hs_9.rdL 3 rfl).sv
      subst hsv_1
      refine .e rfl (.build bt174 rfl ⟨rfl, rfl, rfl, trivial⟩ rfl) <| .f rfl (.alloc hs_9 zero174 fun b_1 w_5 hs_10 hch_3 hb_1 => ?_)
      refine .f rfl (.storeObjA (vs := [(.int .i64 x), (.bool true), sv_1.val]) agg174 hs_10 (i := 4) rfl rfl rfl rfl (fun v h => by simp only [List.mem_cons, List.not_mem_nil, or_false] at h; rcases h with rfl | rfl | rfl; exact rfl; exact rfl; exact rfl) fun w_6 hs_11 hch_4 => ?_)
      have hs_11d : Sat w [_, _, _, _, cObj b_1 174 [(.int .i64 x), (.bool true), sv_1.val]] _ := hs_11
      refine .nil <| .seq <| .region <| .e rfl (.fieldAddr fld174_2 rfl rfl) <| .e rfl (.load scal27 rfl (hs_11d.cell (i := 4) (j := 2) rfl rfl)) <| .m rfl rfl <| .e rfl (.idxL (E := encN .i64) sl27 rfl rfl (hs_11d.rdL 3 rfl) (by simp; omega)) <| .f rfl (.setL (a := 1) 3 one3 hs_11d rfl rfl rfl rfl (by first | omega | (simp; omega) | (rw [oneT_length (by omega)]; omega) | (simp only [List.length_set]; omega)) fun w_7 hs_12 hch_5 => ?_)
      refine .nil ?_
      have hs_13 : Sat w [cL v_1 3 (encN .i64) (oneT c k), cL lvv 174 (encRI) (lv), cPool (pool), cL sv_1.val 3 (encN .i64) (unitN c.length k), cObj b_1 174 [(.int .i64 x), (.bool true), sv_1.val]] w_7 := by
        have hq : (List.replicate (c.length) 0).set k 1 = unitN c.length k := rfl
        rw [← hq]; exact hs_12
      have hs_14 : Sat w [cL v_1 3 (encN .i64) (oneT c k), cL lvv 174 (encRI) (lv), cPool (pool), cObj b_1 174 [(.int .i64 x), (.bool true), sv_1.val], cL sv_1.val 3 (encN .i64) (unitN c.length k)] w_7 := ((Sat.order [0, 1, 2, 4, 3] (by decide) hs_13.tail).untail).sub ((.cons_cons _ (.cons_cons _ (.cons_cons _ (.cons_cons _ (.cons_cons _ .slnil))))))
      have hs_15 : Sat w [cL v_1 3 (encN .i64) (oneT c k), cL lvv 174 (encRI) (lv), cPool (pool ++ [(⟨x, true, sv_1, unitN c.length k⟩ : RI)]), cObj b_1 174 [(.int .i64 x), (.bool true), sv_1.val]] w_7 := Sat.pushPool (A := [cL v_1 3 (encN .i64) (oneT c k), cL lvv 174 (encRI) (lv), cPool (pool), cObj b_1 174 [(.int .i64 x), (.bool true), sv_1.val]]) hs_14 2 rfl
      refine .seq <| .region <| .m rfl rfl <| .e rfl (.lenL Tryz.underlying172 rfl (hs_15.rdL 1 rfl)) <| .s rfl rfl <| .nil <| .seq <| .block <| .loop (α := Nat) (fun j => [(0, v), (1, (.int .i64 (15 : Nat))), (7, v_1), (8, lvv), (9, (.int .i64 k)), (10, (.int .i64 x)), (11, (.pointer (some ⟨b_1, 0, none⟩))), (12, (.int .i64 j)), (31, v), (32, (.int .i64 c.length)), (33, (.int .i64 k))]) (fun j w' => Sat w [cL v_1 3 (encN .i64) (oneT c k), cL lvv 174 (encRI) (lv), cPool (pool ++ [(⟨x, true, sv_1, unitN c.length k⟩ : RI)]), cObj b_1 174 [(.int .i64 x), (.bool true), sv_1.val]] w' ∧ (j ≤ lv.length) ∧ (∀ z ∈ lv.drop j, x < z.w)) (fun j => j) lv.length ⟨rfl, rfl, rfl, rfl, rfl, rfl, rfl, rfl, rfl, rfl, rfl, trivial⟩ ⟨hs_15, Nat.le_refl _, fun z hz => by rw [List.drop_length] at hz; cases hz⟩ ?_
      rintro j w_8 ⟨hs_16, hj, hhi⟩
      show CW _ _ _ _ [(0, v), (1, (.int .i64 (15 : Nat))), (7, v_1), (8, lvv), (9, (.int .i64 k)), (10, (.int .i64 x)), (11, (.pointer (some ⟨b_1, 0, none⟩))), (12, (.int .i64 j)), (31, v), (32, (.int .i64 c.length)), (33, (.int .i64 k))] _
      refine .seq <| .seq ?_
      rcases Nat.eq_zero_or_pos j with hw | hw
      · refine .region <| .m rfl rfl <| .e rfl (.gtrN (b := 0) rfl rfl) <| .m rfl rfl <| .no rfl rfl rfl (decide_eq_false (by omega)) rfl <| .no rfl rfl rfl (decide_eq_false (by omega)) rfl <| .no rfl rfl rfl (decide_eq_false (by omega)) rfl <| .no rfl rfl rfl (decide_eq_false (by omega)) rfl <| .no rfl rfl rfl (decide_eq_false (by omega)) rfl <| .no rfl rfl rfl (decide_eq_false (by omega)) rfl <| .no rfl rfl rfl (decide_eq_false (by omega)) rfl <| .no rfl rfl rfl (decide_eq_false (by omega)) rfl <| .e rfl (.pickN rfl (decide_eq_false (by omega)) rfl) <| .nil <| .condF rfl (rfl) <| .exit0 <| .seq ?_
        have hlo : 0 < j → ∀ z, lv[j - 1]? = some z → z.w ≤ x := fun h => by omega
        refine .drawS hs_15 (.free 0 (.free 1 (.free 2 (.free 4 (.free 7 (.free 8 (.free 9 (.two 3 5 (.one 5 (.one 6 (.one 10 (.free 11 .fin)))) (.one 3 (.one 6 (.one 10 (.free 11 .fin)))))))))))) mixed (by kernel_rfl) ?_
        have hs_17 := hs_16.drew
        refine .m rfl rfl hs_17 <| .m rfl rfl hs_17 <| .e rfl (fun w' hS' => .sliceL (E := encRI) (a := 0) (c := j) sl172 rfl (hS'.rdL 1 rfl) rfl ⟨_, rfl⟩ (Nat.zero_le _) (hj)) hs_17 <| .e rfl (fun w' hS' => .ldObj agg174 rfl hS' (i := 3) rfl rfl) hs_17 <| .m rfl rfl hs_17 <| .m rfl rfl hs_17 <| .e rfl (fun w' hS' => .sliceL (E := encRI) (a := j) (c := (lv).length) sl172 rfl (hS'.rdL 1 rfl) ⟨_, rfl⟩ rfl (hj) (Nat.le_refl _)) hs_17 ?_
        have hs_18 := hs_17.newNilL 174 (encRI)
        refine .two rfl rfl rfl rfl rfl rfl (OpE.appendL 4 sl172 hs_18 rfl rfl rfl Tryz.underlying172 (((hs_18.rdL 1 rfl)).sub (a := 0) (b := j) (Nat.zero_le _) (hj)) (by simp; omega) (by simp; omega) fun v_3 w_9 hs_19 hch_6 => ?_) (OpE.lit1A (encRI) (⟨x, true, sv_1, unitN c.length k⟩ : RI) sl172 (by decide) (by decide) hs_17 rfl fun v_4 w_10 hs_20 hch_7 => ?_)
        · skip
          have hS_1 : Sat w [_, _, _, _] _ := hs_19.sub ((.cons_cons _ (.cons_cons _ (.cons_cons _ (.cons_cons _ (.cons _ .slnil))))))
          refine ⟨hS_1, ?_⟩
          refine .f rfl (.lit1A (encRI) (⟨x, true, sv_1, unitN c.length k⟩ : RI) sl172 (by decide) (by decide) hs_19 rfl fun v_5 w_11 hs_21 hch_8 => ?_)
          have hS_2 : Sat w [_, _, _, _] _ := hs_21.sub ((.cons_cons _ (.cons_cons _ (.cons_cons _ (.cons_cons _ (.cons _ (.cons _ .slnil)))))))
          refine ⟨hS_2, ?_⟩
          refine .f rfl (.appendL 4 sl172 hs_21 rfl rfl rfl Tryz.underlying172 (hs_21.rdL 5 rfl) (by simp; omega) (by simp; omega) fun v_6 w_12 hs_22 hch_9 => ?_)
          have hs_22d : Sat w [_, _, _, _, cL v_6 174 (encRI) (((lv).take j).drop 0 ++ [(⟨x, true, sv_1, unitN c.length k⟩ : RI)])] _ := hs_22.drop 5
          have hS_3 : Sat w [_, _, _, _] _ := hs_22d.sub ((.cons_cons _ (.cons_cons _ (.cons_cons _ (.cons_cons _ (.cons _ .slnil))))))
          refine ⟨hS_3, ?_⟩
          refine .f rfl (.appendL 4 sl172 hs_22d rfl rfl rfl Tryz.underlying172 (((hs_22d.rdL 1 rfl)).sub (a := j) (b := (lv).length) (hj) (Nat.le_refl _)) (by simp; omega) (by simp; omega) fun v_7 w_13 hs_23 hch_10 => ?_)
          have hS_4 : Sat w [_, _, _, _] _ := hs_23.sub ((.cons_cons _ (.cons_cons _ (.cons_cons _ (.cons_cons _ (.cons _ .slnil))))))
          refine ⟨hS_4, ?_⟩
          refine .e rfl (fun w' hS' => .assign rfl) hS_4 <| .fin <| .region <| .m rfl rfl <| .m rfl rfl <| .e rfl (.idxL (E := encN .i64) sl27 rfl rfl (hs_23.rdL 0 rfl) (by rw [oneT_length (by omega)]; omega)) <| .f rfl (.setL (a := 1) 0 one3 hs_23 rfl rfl rfl rfl (by first | omega | (simp; omega) | (rw [oneT_length (by omega)]; omega) | (simp only [List.length_set]; omega)) fun w_14 hs_24 hch_11 => ?_)
          refine .nil <| .region <| .e rfl (.addI (b := 1) rfl rfl (by omega)) <| .m rfl rfl <| .nil ?_
          have hs_25 : Sat w [cL v_1 3 (encN .i64) (oneT c (k + 1)), cL lvv 174 (encRI) (lv), cPool (pool ++ [(⟨x, true, sv_1, unitN c.length k⟩ : RI)]), cObj b_1 174 [(.int .i64 x), (.bool true), sv_1.val], cL v_7 174 (encRI) (((lv).take j).drop 0 ++ [(⟨x, true, sv_1, unitN c.length k⟩ : RI)] ++ ((lv).take ((lv).length)).drop j)] w_14 := by
            have hq : (oneT c k).set k 1 = oneT c (k + 1) := by rw [oneT_set hx (by omega)]
            rw [← hq]; exact hs_24
          have hs_26 : Sat w [cL v_1 3 (encN .i64) (oneT c (k + 1)), cL v_7 174 (encRI) (((lv).take j).drop 0 ++ [(⟨x, true, sv_1, unitN c.length k⟩ : RI)] ++ ((lv).take ((lv).length)).drop j), cPool (pool ++ [(⟨x, true, sv_1, unitN c.length k⟩ : RI)])] w_14 := ((Sat.order [0, 4, 2, 1, 3] (by decide) hs_25.tail).untail).sub ((.cons_cons _ (.cons_cons _ (.cons_cons _ (.cons _ (.cons _ .slnil))))))
          have hs_27 : Sat w [cL v_1 3 (encN .i64) (oneT c (k + 1)), cL v_7 174 (encRI) (lv.take j ++ [(⟨x, true, sv_1, unitN c.length k⟩ : RI)] ++ lv.drop j), cPool (pool ++ [(⟨x, true, sv_1, unitN c.length k⟩ : RI)])] w_14 := by
            have hq : ((lv).take j).drop 0 ++ [(⟨x, true, sv_1, unitN c.length k⟩ : RI)] ++ ((lv).take ((lv).length)).drop j = lv.take j ++ [(⟨x, true, sv_1, unitN c.length k⟩ : RI)] ++ lv.drop j := by simp
            rw [← hq]; exact hs_26
          exact ⟨(k + 1, v_7, lv.take j ++ [(⟨x, true, sv_1, unitN c.length k⟩ : RI)] ++ lv.drop j, pool ++ [(⟨x, true, sv_1, unitN c.length k⟩ : RI)]), ⟨rfl, rfl, rfl, rfl, rfl, rfl, rfl, trivial⟩, ⟨hs_27, by omega, leaf_step hx (by omega) hlv hj hhi hlo true sv_1, fun z hz => by
        simp only [List.mem_append, List.mem_singleton] at hz ⊢
        rcases hz with (hz | hz) | hz
        · exact .inl (hin0 z (List.mem_of_mem_take hz))
        · exact .inr hz
        · exact .inl (hin0 z (List.mem_of_mem_drop hz))⟩, (show (c.length - (k + 1)) < (c.length - k) from by omega)⟩
        · skip
          have hS_5 : Sat w [_, _, _, _] _ := hs_20.sub ((.cons_cons _ (.cons_cons _ (.cons_cons _ (.cons_cons _ (.cons _ .slnil))))))
          refine ⟨hS_5, ?_⟩
          have hs_28 := hs_20.newNilL 174 (encRI)
          refine .f rfl (.appendL 5 sl172 hs_28 rfl rfl rfl Tryz.underlying172 (((hs_28.rdL 1 rfl)).sub (a := 0) (b := j) (Nat.zero_le _) (hj)) (by simp; omega) (by simp; omega) fun v_8 w_15 hs_29 hch_12 => ?_)
          have hS_6 : Sat w [_, _, _, _] _ := hs_29.sub ((.cons_cons _ (.cons_cons _ (.cons_cons _ (.cons_cons _ (.cons _ (.cons _ .slnil)))))))
          refine ⟨hS_6, ?_⟩
          refine .f rfl (.appendL 5 sl172 hs_29 rfl rfl rfl Tryz.underlying172 (hs_29.rdL 4 rfl) (by simp; omega) (by simp; omega) fun v_9 w_16 hs_30 hch_13 => ?_)
          have hS_7 : Sat w [_, _, _, _] _ := hs_30.sub ((.cons_cons _ (.cons_cons _ (.cons_cons _ (.cons_cons _ (.cons _ (.cons _ .slnil)))))))
          refine ⟨hS_7, ?_⟩
          refine .f rfl (.appendL 5 sl172 hs_30 rfl rfl rfl Tryz.underlying172 (((hs_30.rdL 1 rfl)).sub (a := j) (b := (lv).length) (hj) (Nat.le_refl _)) (by simp; omega) (by simp; omega) fun v_10 w_17 hs_31 hch_14 => ?_)
          have hS_8 : Sat w [_, _, _, _] _ := hs_31.sub ((.cons_cons _ (.cons_cons _ (.cons_cons _ (.cons_cons _ (.cons _ (.cons _ .slnil)))))))
          refine ⟨hS_8, ?_⟩
          refine .e rfl (fun w' hS' => .assign rfl) hS_8 <| .fin <| .region <| .m rfl rfl <| .m rfl rfl <| .e rfl (.idxL (E := encN .i64) sl27 rfl rfl (hs_31.rdL 0 rfl) (by rw [oneT_length (by omega)]; omega)) <| .f rfl (.setL (a := 1) 0 one3 hs_31 rfl rfl rfl rfl (by first | omega | (simp; omega) | (rw [oneT_length (by omega)]; omega) | (simp only [List.length_set]; omega)) fun w_18 hs_32 hch_15 => ?_)
          refine .nil <| .region <| .e rfl (.addI (b := 1) rfl rfl (by omega)) <| .m rfl rfl <| .nil ?_
          have hs_33 : Sat w [cL v_1 3 (encN .i64) (oneT c (k + 1)), cL lvv 174 (encRI) (lv), cPool (pool ++ [(⟨x, true, sv_1, unitN c.length k⟩ : RI)]), cObj b_1 174 [(.int .i64 x), (.bool true), sv_1.val], cL v_4 174 (encRI) ([(⟨x, true, sv_1, unitN c.length k⟩ : RI)]), cL v_10 174 (encRI) (((lv).take j).drop 0 ++ [(⟨x, true, sv_1, unitN c.length k⟩ : RI)] ++ ((lv).take ((lv).length)).drop j)] w_18 := by
            have hq : (oneT c k).set k 1 = oneT c (k + 1) := by rw [oneT_set hx (by omega)]
            rw [← hq]; exact hs_32
          have hs_34 : Sat w [cL v_1 3 (encN .i64) (oneT c (k + 1)), cL v_10 174 (encRI) (((lv).take j).drop 0 ++ [(⟨x, true, sv_1, unitN c.length k⟩ : RI)] ++ ((lv).take ((lv).length)).drop j), cPool (pool ++ [(⟨x, true, sv_1, unitN c.length k⟩ : RI)])] w_18 := ((Sat.order [0, 5, 2, 1, 3, 4] (by decide) hs_33.tail).untail).sub ((.cons_cons _ (.cons_cons _ (.cons_cons _ (.cons _ (.cons _ (.cons _ .slnil)))))))
          have hs_35 : Sat w [cL v_1 3 (encN .i64) (oneT c (k + 1)), cL v_10 174 (encRI) (lv.take j ++ [(⟨x, true, sv_1, unitN c.length k⟩ : RI)] ++ lv.drop j), cPool (pool ++ [(⟨x, true, sv_1, unitN c.length k⟩ : RI)])] w_18 := by
            have hq : ((lv).take j).drop 0 ++ [(⟨x, true, sv_1, unitN c.length k⟩ : RI)] ++ ((lv).take ((lv).length)).drop j = lv.take j ++ [(⟨x, true, sv_1, unitN c.length k⟩ : RI)] ++ lv.drop j := by simp
            rw [← hq]; exact hs_34
          exact ⟨(k + 1, v_10, lv.take j ++ [(⟨x, true, sv_1, unitN c.length k⟩ : RI)] ++ lv.drop j, pool ++ [(⟨x, true, sv_1, unitN c.length k⟩ : RI)]), ⟨rfl, rfl, rfl, rfl, rfl, rfl, rfl, trivial⟩, ⟨hs_35, by omega, leaf_step hx (by omega) hlv hj hhi hlo true sv_1, fun z hz => by
        simp only [List.mem_append, List.mem_singleton] at hz ⊢
        rcases hz with (hz | hz) | hz
        · exact .inl (hin0 z (List.mem_of_mem_take hz))
        · exact .inr hz
        · exact .inl (hin0 z (List.mem_of_mem_drop hz))⟩, (show (c.length - (k + 1)) < (c.length - k) from by omega)⟩
      · obtain ⟨y, hy⟩ : ∃ y, (lv)[(j - 1)]? = some y := ⟨_, List.getElem?_eq_getElem (by omega)⟩
        refine .region <| .m rfl rfl <| .e rfl (.gtrN (b := 0) rfl rfl) <| .m rfl rfl <| .yes rfl rfl rfl (decide_eq_true hw) <| .m rfl rfl <| .yes rfl rfl rfl (decide_eq_true hw) <| .m rfl rfl <| .yes rfl rfl rfl (decide_eq_true hw) <| .e rfl (.subI (b := 1) rfl rfl (by omega) (by omega)) <| .yes rfl rfl rfl (decide_eq_true hw) <| .e rfl (.idxL (E := encRI) sl172 rfl rfl (hs_16.rdL 1 rfl) (by omega)) <| .yes rfl rfl rfl (decide_eq_true hw) <| .e rfl (.fldL (E := encRI) fld174_0 rfl (hs_16.rdL 1 rfl) (by omega) (by decide)) <| .yes rfl rfl rfl (decide_eq_true hw) <| .e rfl (.ldLF (E := encRI) scal3 rfl (hs_16.rdL 1 rfl) hy (by decide) rfl) <| .yes rfl rfl rfl (decide_eq_true hw) <| .m rfl rfl <| .yes rfl rfl rfl (decide_eq_true hw) <| .e rfl (.gtrN rfl rfl) <| .e rfl (.pickY rfl (decide_eq_true hw) rfl) <| .nil <| .condD rfl (fun hc_3 => ?_) (fun hc_3 => ?_)
        · refine .skip <| .block <| .region <| .m rfl rfl <| .e rfl (.subI (b := 1) rfl rfl (by omega) (by omega)) <| .s rfl rfl <| .nil ?_
          exact ⟨j - 1, ⟨rfl, rfl, rfl, rfl, rfl, rfl, rfl, rfl, rfl, rfl, rfl, trivial⟩, ⟨hs_16, by omega, fun z hz => by
          rw [drop_of_get hy, show j - 1 + 1 = j by omega] at hz
          rcases List.mem_cons.1 hz with rfl | hz
          · omega
          · exact hhi z hz⟩, (show ((j - 1)) < (j) from by omega)⟩
        · refine .exit0 <| .seq ?_
          have hlo : 0 < j → ∀ z, lv[j - 1]? = some z → z.w ≤ x := fun _ z hz => by rw [hy] at hz; cases hz; omega
          refine .drawS hs_15 (.free 0 (.free 1 (.free 2 (.free 4 (.free 7 (.free 8 (.free 9 (.two 3 5 (.one 5 (.one 6 (.one 10 (.free 11 .fin)))) (.one 3 (.one 6 (.one 10 (.free 11 .fin)))))))))))) mixed (by kernel_rfl) ?_
          have hs_36 := hs_16.drew
          refine .m rfl rfl hs_36 <| .m rfl rfl hs_36 <| .e rfl (fun w' hS' => .sliceL (E := encRI) (a := 0) (c := j) sl172 rfl (hS'.rdL 1 rfl) rfl ⟨_, rfl⟩ (Nat.zero_le _) (hj)) hs_36 <| .e rfl (fun w' hS' => .ldObj agg174 rfl hS' (i := 3) rfl rfl) hs_36 <| .m rfl rfl hs_36 <| .m rfl rfl hs_36 <| .e rfl (fun w' hS' => .sliceL (E := encRI) (a := j) (c := (lv).length) sl172 rfl (hS'.rdL 1 rfl) ⟨_, rfl⟩ rfl (hj) (Nat.le_refl _)) hs_36 ?_
          have hs_37 := hs_36.newNilL 174 (encRI)
          refine .two rfl rfl rfl rfl rfl rfl (OpE.appendL 4 sl172 hs_37 rfl rfl rfl Tryz.underlying172 (((hs_37.rdL 1 rfl)).sub (a := 0) (b := j) (Nat.zero_le _) (hj)) (by simp; omega) (by simp; omega) fun v_11 w_19 hs_38 hch_16 => ?_) (OpE.lit1A (encRI) (⟨x, true, sv_1, unitN c.length k⟩ : RI) sl172 (by decide) (by decide) hs_36 rfl fun v_12 w_20 hs_39 hch_17 => ?_)
          · skip
            have hS_9 : Sat w [_, _, _, _] _ := hs_38.sub ((.cons_cons _ (.cons_cons _ (.cons_cons _ (.cons_cons _ (.cons _ .slnil))))))
            refine ⟨hS_9, ?_⟩
            refine .f rfl (.lit1A (encRI) (⟨x, true, sv_1, unitN c.length k⟩ : RI) sl172 (by decide) (by decide) hs_38 rfl fun v_13 w_21 hs_40 hch_18 => ?_)
            have hS_10 : Sat w [_, _, _, _] _ := hs_40.sub ((.cons_cons _ (.cons_cons _ (.cons_cons _ (.cons_cons _ (.cons _ (.cons _ .slnil)))))))
            refine ⟨hS_10, ?_⟩
            refine .f rfl (.appendL 4 sl172 hs_40 rfl rfl rfl Tryz.underlying172 (hs_40.rdL 5 rfl) (by simp; omega) (by simp; omega) fun v_14 w_22 hs_41 hch_19 => ?_)
            have hs_41d : Sat w [_, _, _, _, cL v_14 174 (encRI) (((lv).take j).drop 0 ++ [(⟨x, true, sv_1, unitN c.length k⟩ : RI)])] _ := hs_41.drop 5
            have hS_11 : Sat w [_, _, _, _] _ := hs_41d.sub ((.cons_cons _ (.cons_cons _ (.cons_cons _ (.cons_cons _ (.cons _ .slnil))))))
            refine ⟨hS_11, ?_⟩
            refine .f rfl (.appendL 4 sl172 hs_41d rfl rfl rfl Tryz.underlying172 (((hs_41d.rdL 1 rfl)).sub (a := j) (b := (lv).length) (hj) (Nat.le_refl _)) (by simp; omega) (by simp; omega) fun v_15 w_23 hs_42 hch_20 => ?_)
            have hS_12 : Sat w [_, _, _, _] _ := hs_42.sub ((.cons_cons _ (.cons_cons _ (.cons_cons _ (.cons_cons _ (.cons _ .slnil))))))
            refine ⟨hS_12, ?_⟩
            refine .e rfl (fun w' hS' => .assign rfl) hS_12 <| .fin <| .region <| .m rfl rfl <| .m rfl rfl <| .e rfl (.idxL (E := encN .i64) sl27 rfl rfl (hs_42.rdL 0 rfl) (by rw [oneT_length (by omega)]; omega)) <| .f rfl (.setL (a := 1) 0 one3 hs_42 rfl rfl rfl rfl (by first | omega | (simp; omega) | (rw [oneT_length (by omega)]; omega) | (simp only [List.length_set]; omega)) fun w_24 hs_43 hch_21 => ?_)
            refine .nil <| .region <| .e rfl (.addI (b := 1) rfl rfl (by omega)) <| .m rfl rfl <| .nil ?_
            have hs_44 : Sat w [cL v_1 3 (encN .i64) (oneT c (k + 1)), cL lvv 174 (encRI) (lv), cPool (pool ++ [(⟨x, true, sv_1, unitN c.length k⟩ : RI)]), cObj b_1 174 [(.int .i64 x), (.bool true), sv_1.val], cL v_15 174 (encRI) (((lv).take j).drop 0 ++ [(⟨x, true, sv_1, unitN c.length k⟩ : RI)] ++ ((lv).take ((lv).length)).drop j)] w_24 := by
              have hq : (oneT c k).set k 1 = oneT c (k + 1) := by rw [oneT_set hx (by omega)]
              rw [← hq]; exact hs_43
            have hs_45 : Sat w [cL v_1 3 (encN .i64) (oneT c (k + 1)), cL v_15 174 (encRI) (((lv).take j).drop 0 ++ [(⟨x, true, sv_1, unitN c.length k⟩ : RI)] ++ ((lv).take ((lv).length)).drop j), cPool (pool ++ [(⟨x, true, sv_1, unitN c.length k⟩ : RI)])] w_24 := ((Sat.order [0, 4, 2, 1, 3] (by decide) hs_44.tail).untail).sub ((.cons_cons _ (.cons_cons _ (.cons_cons _ (.cons _ (.cons _ .slnil))))))
            have hs_46 : Sat w [cL v_1 3 (encN .i64) (oneT c (k + 1)), cL v_15 174 (encRI) (lv.take j ++ [(⟨x, true, sv_1, unitN c.length k⟩ : RI)] ++ lv.drop j), cPool (pool ++ [(⟨x, true, sv_1, unitN c.length k⟩ : RI)])] w_24 := by
              have hq : ((lv).take j).drop 0 ++ [(⟨x, true, sv_1, unitN c.length k⟩ : RI)] ++ ((lv).take ((lv).length)).drop j = lv.take j ++ [(⟨x, true, sv_1, unitN c.length k⟩ : RI)] ++ lv.drop j := by simp
              rw [← hq]; exact hs_45
            exact ⟨(k + 1, v_15, lv.take j ++ [(⟨x, true, sv_1, unitN c.length k⟩ : RI)] ++ lv.drop j, pool ++ [(⟨x, true, sv_1, unitN c.length k⟩ : RI)]), ⟨rfl, rfl, rfl, rfl, rfl, rfl, rfl, trivial⟩, ⟨hs_46, by omega, leaf_step hx (by omega) hlv hj hhi hlo true sv_1, fun z hz => by
        simp only [List.mem_append, List.mem_singleton] at hz ⊢
        rcases hz with (hz | hz) | hz
        · exact .inl (hin0 z (List.mem_of_mem_take hz))
        · exact .inr hz
        · exact .inl (hin0 z (List.mem_of_mem_drop hz))⟩, (show (c.length - (k + 1)) < (c.length - k) from by omega)⟩
          · skip
            have hS_13 : Sat w [_, _, _, _] _ := hs_39.sub ((.cons_cons _ (.cons_cons _ (.cons_cons _ (.cons_cons _ (.cons _ .slnil))))))
            refine ⟨hS_13, ?_⟩
            have hs_47 := hs_39.newNilL 174 (encRI)
            refine .f rfl (.appendL 5 sl172 hs_47 rfl rfl rfl Tryz.underlying172 (((hs_47.rdL 1 rfl)).sub (a := 0) (b := j) (Nat.zero_le _) (hj)) (by simp; omega) (by simp; omega) fun v_16 w_25 hs_48 hch_22 => ?_)
            have hS_14 : Sat w [_, _, _, _] _ := hs_48.sub ((.cons_cons _ (.cons_cons _ (.cons_cons _ (.cons_cons _ (.cons _ (.cons _ .slnil)))))))
            refine ⟨hS_14, ?_⟩
            refine .f rfl (.appendL 5 sl172 hs_48 rfl rfl rfl Tryz.underlying172 (hs_48.rdL 4 rfl) (by simp; omega) (by simp; omega) fun v_17 w_26 hs_49 hch_23 => ?_)
            have hS_15 : Sat w [_, _, _, _] _ := hs_49.sub ((.cons_cons _ (.cons_cons _ (.cons_cons _ (.cons_cons _ (.cons _ (.cons _ .slnil)))))))
            refine ⟨hS_15, ?_⟩
            refine .f rfl (.appendL 5 sl172 hs_49 rfl rfl rfl Tryz.underlying172 (((hs_49.rdL 1 rfl)).sub (a := j) (b := (lv).length) (hj) (Nat.le_refl _)) (by simp; omega) (by simp; omega) fun v_18 w_27 hs_50 hch_24 => ?_)
            have hS_16 : Sat w [_, _, _, _] _ := hs_50.sub ((.cons_cons _ (.cons_cons _ (.cons_cons _ (.cons_cons _ (.cons _ (.cons _ .slnil)))))))
            refine ⟨hS_16, ?_⟩
            refine .e rfl (fun w' hS' => .assign rfl) hS_16 <| .fin <| .region <| .m rfl rfl <| .m rfl rfl <| .e rfl (.idxL (E := encN .i64) sl27 rfl rfl (hs_50.rdL 0 rfl) (by rw [oneT_length (by omega)]; omega)) <| .f rfl (.setL (a := 1) 0 one3 hs_50 rfl rfl rfl rfl (by first | omega | (simp; omega) | (rw [oneT_length (by omega)]; omega) | (simp only [List.length_set]; omega)) fun w_28 hs_51 hch_25 => ?_)
            refine .nil <| .region <| .e rfl (.addI (b := 1) rfl rfl (by omega)) <| .m rfl rfl <| .nil ?_
            have hs_52 : Sat w [cL v_1 3 (encN .i64) (oneT c (k + 1)), cL lvv 174 (encRI) (lv), cPool (pool ++ [(⟨x, true, sv_1, unitN c.length k⟩ : RI)]), cObj b_1 174 [(.int .i64 x), (.bool true), sv_1.val], cL v_12 174 (encRI) ([(⟨x, true, sv_1, unitN c.length k⟩ : RI)]), cL v_18 174 (encRI) (((lv).take j).drop 0 ++ [(⟨x, true, sv_1, unitN c.length k⟩ : RI)] ++ ((lv).take ((lv).length)).drop j)] w_28 := by
              have hq : (oneT c k).set k 1 = oneT c (k + 1) := by rw [oneT_set hx (by omega)]
              rw [← hq]; exact hs_51
            have hs_53 : Sat w [cL v_1 3 (encN .i64) (oneT c (k + 1)), cL v_18 174 (encRI) (((lv).take j).drop 0 ++ [(⟨x, true, sv_1, unitN c.length k⟩ : RI)] ++ ((lv).take ((lv).length)).drop j), cPool (pool ++ [(⟨x, true, sv_1, unitN c.length k⟩ : RI)])] w_28 := ((Sat.order [0, 5, 2, 1, 3, 4] (by decide) hs_52.tail).untail).sub ((.cons_cons _ (.cons_cons _ (.cons_cons _ (.cons _ (.cons _ (.cons _ .slnil)))))))
            have hs_54 : Sat w [cL v_1 3 (encN .i64) (oneT c (k + 1)), cL v_18 174 (encRI) (lv.take j ++ [(⟨x, true, sv_1, unitN c.length k⟩ : RI)] ++ lv.drop j), cPool (pool ++ [(⟨x, true, sv_1, unitN c.length k⟩ : RI)])] w_28 := by
              have hq : ((lv).take j).drop 0 ++ [(⟨x, true, sv_1, unitN c.length k⟩ : RI)] ++ ((lv).take ((lv).length)).drop j = lv.take j ++ [(⟨x, true, sv_1, unitN c.length k⟩ : RI)] ++ lv.drop j := by simp
              rw [← hq]; exact hs_53
            exact ⟨(k + 1, v_18, lv.take j ++ [(⟨x, true, sv_1, unitN c.length k⟩ : RI)] ++ lv.drop j, pool ++ [(⟨x, true, sv_1, unitN c.length k⟩ : RI)]), ⟨rfl, rfl, rfl, rfl, rfl, rfl, rfl, trivial⟩, ⟨hs_54, by omega, leaf_step hx (by omega) hlv hj hhi hlo true sv_1, fun z hz => by
        simp only [List.mem_append, List.mem_singleton] at hz ⊢
        rcases hz with (hz | hz) | hz
        · exact .inl (hin0 z (List.mem_of_mem_take hz))
        · exact .inr hz
        · exact .inl (hin0 z (List.mem_of_mem_drop hz))⟩, (show (c.length - (k + 1)) < (c.length - k) from by omega)⟩
  · refine .exit0 <| .seq <| .seq ?_
    have hkc : k = c.length := by omega
    have hlvE : lv.map wo = (leaves c).map (eIt c.length) := by rw [hlv, hkc, List.take_length]; rfl
    have hlvl : lv.length = (leaves c).length := by have := congrArg List.length hlvE; simpa using this
    have hllc := leaves_length c
    have hs_55 : Sat w [cL v_1 3 (encN .i64) (oneZ c), cL lvv 174 (encRI) (lv), cPool (pool)] w_3 := by
      have hq : oneT c k = oneZ c := by rw [hkc, oneT_all]
      rw [← hq]; exact hs_6
    refine .region <| .m rfl rfl <| .e rfl (.lenL Tryz.underlying172 rfl (hs_55.rdL 1 rfl)) <| .e rfl (.lssN (b := 2) rfl rfl) <| .nil <| .condD rfl (fun hc_4 => ?_) (fun hc_4 => ?_)
    · refine .seq <| .region <| .m rfl rfl <| .s rfl rfl <| .s rfl rfl <| .nil <| .ret ?_
      show PostK _ _ _ _ _ _
      refine post2 rfl rfl rfl ?_
      have hs_56 : Sat w [_] w_3 := hs_55.sub ((.cons_cons _ (.cons _ (.cons _ .slnil))))
      have hs_57 : Sat w [cL v_1 3 (encN .i64) (lensN c)] w_3 := by
        have hq : oneZ c = lensN c := by rw [lens_few (by omega)]
        rw [← hq]; exact hs_56
      exact ⟨_, rfl, hs_57⟩
    · refine .skip <| .seq <| .region <| .m rfl rfl <| .s rfl rfl <| .nil <| .seq <| .seq <| .region <| .s rfl rfl <| .nil <| .block ?_
      obtain ⟨sv_2, hsv_2, hsv_2n⟩ := (hs_55.rdL 1 rfl).sv
      subst hsv_2
      have hs_58 : Sat w [cL v_1 3 (encN .i64) (oneZ c), cPool (pool), cRows 174 encRI ([]), cL sv_2.val 174 (encRI) (lv)] _ := Sat.order [0, 2, 3, 1] (by decide) (hs_55.newRows 176 encRI).tail |>.untail
      have hs_59 : Sat w [cL v_1 3 (encN .i64) (oneZ c), cPool (pool), cRows 174 encRI ([] ++ [(sv_2, lv)])] w_3 := Sat.pushRows (A := [cL v_1 3 (encN .i64) (oneZ c), cPool (pool), cRows 174 encRI ([])]) hs_58 2 rfl
      refine .loop (α := Nat × List RI × List (SV × List RI) × (SV × List RI) × Nat) (fun (m, pool, ps, p, q) => [(0, v), (1, (.int .i64 (15 : Nat))), (7, v_1), (8, sv_2.val), (13, p.1.val), (14, (.int .i64 m))]) (fun (m, pool, ps, p, q) w' => Sat w [cL v_1 3 (encN .i64) (oneZ c), cPool (pool), cRows 174 encRI (ps)] w' ∧ (1 ≤ m) ∧ (m ≤ 15) ∧ (ps[0]? = some (sv_2, lv)) ∧ (ps[q]? = some p) ∧ (p.2.map wo = eLv c (m - 1)) ∧ (∀ x ∈ lv, x ∈ pool) ∧ (∀ x ∈ p.2, x ∈ pool)) (fun (m, pool, ps, p, q) => 15 - m) (1, pool, [(sv_2, lv)], (sv_2, lv), 0) ⟨rfl, rfl, rfl, rfl, rfl, rfl, trivial⟩ ⟨hs_59, Nat.le_refl _, by omega, rfl, rfl, hlvE, hin0, hin0⟩ ?_
      rintro ⟨m, pool, ps, p, q⟩ w_29 ⟨hs_60, hm1, hm15, hp0, hp, hpw, hinl, hinp⟩
      show CW _ _ _ _ [(0, v), (1, (.int .i64 (15 : Nat))), (7, v_1), (8, sv_2.val), (13, p.1.val), (14, (.int .i64 m))] _
      have hpl : p.2.length ≤ 2048 := by have h1 := congrArg List.length hpw; have h2 := (lvl_length c (m - 1)).2; rw [List.length_map, eLv_length] at h1; omega
      refine .seq <| .seq <| .region <| .m rfl rfl <| .m rfl rfl <| .e rfl (.lssN (b := 15) rfl rfl) <| .nil <| .condD rfl (fun hc_5 => ?_) (fun hc_5 => ?_)
      · refine .skip <| .seq <| .block <| .seq <| .region <| .s rfl rfl <| .nil <| .seq <| .seq <| .region <| .s rfl rfl <| .nil <| .block ?_
        have hs_61 := hs_60.newNilL 174 (encRI)
        refine .loop (α := Nat × Value × List RI × List RI) (fun (t, pv, pk, pool2) => [(0, v), (1, (.int .i64 (15 : Nat))), (7, v_1), (8, sv_2.val), (13, p.1.val), (14, (.int .i64 m)), (15, pv), (16, (.int .i64 ((2 * t) : Nat)))]) (fun (t, pv, pk, pool2) w' => Sat w [cL v_1 3 (encN .i64) (oneZ c), cPool (pool2), cRows 174 encRI (ps), cL pv 174 (encRI) (pk)] w' ∧ (2 * t ≤ p.2.length) ∧ (pk.map wo = epk ((p.2.take (2 * t)).map wo)) ∧ (∀ x ∈ pool, x ∈ pool2) ∧ (∀ x ∈ pk, x ∈ pool2) ∧ (pk.length = t)) (fun (t, pv, pk, pool2) => p.2.length - 2 * t) (0, (.slice none 0 0), [], pool) ⟨rfl, rfl, rfl, rfl, rfl, rfl, rfl, rfl, trivial⟩ ⟨hs_61, by omega, by simp [epk], fun _ h => h, (fun _ h => by cases h), rfl⟩ ?_
        rintro ⟨t, pv, pk, pool2⟩ w_30 ⟨hs_62, ht, hpk, hsub, hinpk, hpkl⟩
        show CW _ _ _ _ [(0, v), (1, (.int .i64 (15 : Nat))), (7, v_1), (8, sv_2.val), (13, p.1.val), (14, (.int .i64 m)), (15, pv), (16, (.int .i64 ((2 * t) : Nat)))] _
        refine .seq <| .seq <| .region <| .m rfl rfl <| .e rfl (.addI (b := 1) rfl rfl (by omega)) <| .m rfl rfl <| .e rfl (.lenL Tryz.underlying172 rfl (hs_62.rdRows 2 rfl hp)) <| .e rfl (.lssN rfl rfl) <| .nil <| .condD rfl (fun hc_6 => ?_) (fun hc_6 => ?_)
        · refine .skip <| .seq <| .block <| .seq ?_
          obtain ⟨x, hx⟩ : ∃ x, (p.2)[(2 * t)]? = some x := ⟨_, List.getElem?_eq_getElem (by omega)⟩
          obtain ⟨y, hy⟩ : ∃ y, (p.2)[((2 * t) + 1)]? = some y := ⟨_, List.getElem?_eq_getElem (by omega)⟩
          have hxe : wo x ∈ eLv c (m - 1) := by rw [← hpw]; exact List.mem_map_of_mem (mem_of_get hx)
          have hxl : x.occ.length = c.length := eLv_len c _ _ hxe
          have hxw : x.w ≤ 4096 * 2 ^ (m - 1) := eLv_w c 4096 hc _ _ hxe
          have hxo : ∀ z ∈ x.occ, z ≤ 2 ^ (m - 1) := eLv_le c _ _ hxe
          have hye : wo y ∈ eLv c (m - 1) := by rw [← hpw]; exact List.mem_map_of_mem (mem_of_get hy)
          have hyl : y.occ.length = c.length := eLv_len c _ _ hye
          have hyw : y.w ≤ 4096 * 2 ^ (m - 1) := eLv_w c 4096 hc _ _ hye
          have hyo : ∀ z ∈ y.occ, z ≤ 2 ^ (m - 1) := eLv_le c _ _ hye
          have h2m : 2 ^ (m - 1) ≤ 2 ^ 14 := Nat.pow_le_pow_right (by decide) (by omega)
          refine .draw (fun w' => Sat w [cL v_1 3 (encN .i64) (oneZ c), cPool (pool2), cRows 174 encRI (ps), cL pv 174 (encRI) (pk)] w') (.free 0 (.free 1 (.free 2 (.free 3 (.free 4 (.free 5 (.free 6 (.free 7 (.free 8 (.free 9 (.free 10 (.free 11 (.free 12 (.free 13 (.two 14 16 (.free 15 (.one 16 (.one 17 .fin))) (.one 14 (.free 15 (.one 17 .fin)))))))))))))))))) mixed (by kernel_rfl) ?_
          have hs_63 := hs_62.drew
          refine .m rfl rfl hs_63 <| .m rfl rfl hs_63 <| .e rfl (fun w' hS' => .idxL (E := encRI) sl172 rfl rfl (hS'.rdRows 2 rfl hp) (by omega)) hs_63 <| .e rfl (fun w' hS' => .fldL (E := encRI) fld174_0 rfl (hS'.rdRows 2 rfl hp) (by omega) (by decide)) hs_63 <| .e rfl (fun w' hS' => .ldLF (E := encRI) scal3 rfl (hS'.rdRows 2 rfl hp) hx (by decide) rfl) hs_63 <| .m rfl rfl hs_63 <| .m rfl rfl hs_63 <| .e rfl (fun w' hS' => .addI (b := 1) rfl rfl (by omega)) hs_63 <| .e rfl (fun w' hS' => .idxL (E := encRI) sl172 rfl rfl (hS'.rdRows 2 rfl hp) (by omega)) hs_63 <| .e rfl (fun w' hS' => .fldL (E := encRI) fld174_0 rfl (hS'.rdRows 2 rfl hp) (by omega) (by decide)) hs_63 <| .e rfl (fun w' hS' => .ldLF (E := encRI) scal3 rfl (hS'.rdRows 2 rfl hp) hy (by decide) rfl) hs_63 <| .e rfl (fun w' hS' => .addI rfl rfl (by omega)) hs_63 <| .m rfl rfl hs_63 <| .e rfl (fun w' hS' => .lenL Tryz.underlying27 rfl (hv.ext hS'.ext)) hs_63 <| .two rfl rfl rfl rfl rfl rfl (OpE.makeL (encN .i64) (0) sl27 rfl hs_63 rfl rfl (by omega) (by omega) (by omega) fun v_19 w_31 hs_64 hch_26 => ?_) (OpE.alloc hs_63 zero174 fun b_2 w_32 hs_65 hch_27 hb_2 => ?_)
          · skip
            obtain ⟨sv_3, hsv_3, hsv_3n⟩ := (hs_64.rdL 4 rfl).sv
            subst hsv_3
            have hS_17 : Sat w [_, _, _, _] _ := hs_64.sub ((.cons_cons _ (.cons_cons _ (.cons_cons _ (.cons_cons _ (.cons _ .slnil))))))
            refine ⟨hS_17, ?_⟩
            refine .e rfl (fun w' hS' => .build bt174 rfl ⟨rfl, rfl, trivial⟩ rfl) hS_17 <| .f rfl (.alloc hs_64 zero174 fun b_3 w_33 hs_66 hch_28 hb_3 => ?_)
            have hS_18 : Sat w [_, _, _, _] _ := hs_66.sub ((.cons_cons _ (.cons_cons _ (.cons_cons _ (.cons_cons _ (.cons _ (.cons _ .slnil)))))))
            refine ⟨hS_18, ?_⟩
            refine .f rfl (.storeObjA (vs := [(.int .i64 ((x.w + y.w) : Nat)), (.bool false), sv_3.val]) agg174 hs_66 (i := 5) rfl rfl rfl rfl (fun v h => by simp only [List.mem_cons, List.not_mem_nil, or_false] at h; rcases h with rfl | rfl | rfl; exact rfl; exact rfl; exact rfl) fun w_34 hs_67 hch_29 => ?_)
            have hS_19 : Sat w [_, _, _, _] _ := hs_67.sub ((.cons_cons _ (.cons_cons _ (.cons_cons _ (.cons_cons _ (.cons _ (.cons _ .slnil)))))))
            refine ⟨hS_19, ?_⟩
            refine .fin ?_
            have hs_68 : Sat w [_, _, _, _, cL sv_3.val 3 (encN .i64) (List.replicate (c.length) 0), cObj b_3 174 [(.int .i64 ((x.w + y.w) : Nat)), (.bool false), sv_3.val]] w_34 := hs_67.sub ((.cons_cons _ (.cons_cons _ (.cons_cons _ (.cons_cons _ (.cons_cons _ (.cons_cons _ .slnil)))))))
            refine .seq <| .seq <| .region <| .m rfl rfl <| .e rfl (.lenL Tryz.underlying27 rfl (hv.ext hs_68.ext)) <| .m rfl rfl <| .nil <| .block ?_
            have hs_69 : Sat w [cL v_1 3 (encN .i64) (oneZ c), cPool (pool2), cRows 174 encRI (ps), cL pv 174 (encRI) (pk), cL sv_3.val 3 (encN .i64) (vaT x.occ y.occ 0), cObj b_3 174 [(.int .i64 ((x.w + y.w) : Nat)), (.bool false), sv_3.val]] w_34 := by
              have hq : List.replicate (c.length) 0 = vaT x.occ y.occ 0 := by rw [vaT_zero, hxl]
              rw [← hq]; exact hs_68
            refine .loop (α := Nat) (fun s => [(0, v), (1, (.int .i64 (15 : Nat))), (7, v_1), (8, sv_2.val), (13, p.1.val), (14, (.int .i64 m)), (15, pv), (16, (.int .i64 ((2 * t) : Nat))), (17, (.pointer (some ⟨b_3, 0, none⟩))), (113, v), (114, (.int .i64 c.length)), (115, (.int .i64 s))]) (fun s w' => Sat w [cL v_1 3 (encN .i64) (oneZ c), cPool (pool2), cRows 174 encRI (ps), cL pv 174 (encRI) (pk), cL sv_3.val 3 (encN .i64) (vaT x.occ y.occ s), cObj b_3 174 [(.int .i64 ((x.w + y.w) : Nat)), (.bool false), sv_3.val]] w' ∧ (s ≤ c.length)) (fun s => c.length - s) 0 ⟨rfl, rfl, rfl, rfl, rfl, rfl, rfl, rfl, rfl, rfl, rfl, rfl, trivial⟩ ⟨hs_69, Nat.zero_le _⟩ ?_
            rintro s w_35 ⟨hs_70, hsn⟩
            show CW _ _ _ _ [(0, v), (1, (.int .i64 (15 : Nat))), (7, v_1), (8, sv_2.val), (13, p.1.val), (14, (.int .i64 m)), (15, pv), (16, (.int .i64 ((2 * t) : Nat))), (17, (.pointer (some ⟨b_3, 0, none⟩))), (113, v), (114, (.int .i64 c.length)), (115, (.int .i64 s))] _
            refine .seq <| .region <| .e rfl (.lssN rfl rfl) <| .nil <| .seq <| .condD rfl (fun hc_7 => ?_) (fun hc_7 => ?_)
            · refine .skip <| .seq <| .block <| .seq <| .region <| .m rfl rfl <| .s rfl rfl <| .nil ?_
              obtain ⟨xa, hxa⟩ : ∃ xa, (x.occ)[s]? = some xa := ⟨_, List.getElem?_eq_getElem (by omega)⟩
              obtain ⟨ya, hya⟩ : ∃ ya, (y.occ)[s]? = some ya := ⟨_, List.getElem?_eq_getElem (by omega)⟩
              have hxab := hxo _ (mem_of_get hxa)
              have hyab := hyo _ (mem_of_get hya)
              have hvl := vaT_length (s := s) hxl hyl (by omega)
              have hshp_1 := (hs_70.rdL (E := encN .i64) 4 rfl).shp (by decide)
              refine .draw (fun w' => Sat w [cL v_1 3 (encN .i64) (oneZ c), cPool (pool2), cRows 174 encRI (ps), cL pv 174 (encRI) (pk), cObj b_3 174 [(.int .i64 ((x.w + y.w) : Nat)), (.bool false), sv_3.val]] w') (.free 0 (.free 1 (.free 2 (.free 3 (.free 4 (.free 5 (.free 6 (.free 7 (.free 8 (.free 9 (.free 10 (.free 11 (.free 12 (.free 13 (.free 14 (.free 15 (.free 16 (.free 17 (.free 18 (.free 19 (.free 20 (.free 21 (.one 22 .fin))))))))))))))))))))))) mixed (by kernel_rfl) ?_
              have hs_71 := hs_70.drew
              have hS_20 : Sat w [_, _, _, _, _] _ := hs_71.sub ((.cons_cons _ (.cons_cons _ (.cons_cons _ (.cons_cons _ (.cons _ (.cons_cons _ .slnil)))))))
              refine .e rfl (fun w' hS' => .fieldAddr fld174_2 rfl rfl) hS_20 <| .e rfl (fun w' hS' => .load scal27 rfl (hS'.cell (i := 4) (j := 2) rfl rfl)) hS_20 <| .m rfl rfl hS_20 <| .m rfl rfl hS_20 <| .m rfl rfl hS_20 <| .e rfl (fun w' hS' => .idxL (E := encRI) sl172 rfl rfl (hS'.rdRows 2 rfl hp) (by omega)) hS_20 <| .e rfl (fun w' hS' => .fldL (E := encRI) fld174_2 rfl (hS'.rdRows 2 rfl hp) (by omega) (by decide)) hS_20 <| .e rfl (fun w' hS' => .ldLF (E := encRI) scal27 rfl (hS'.rdRows 2 rfl hp) hx (by decide) rfl) hS_20 <| .m rfl rfl hS_20 <| .e rfl (fun w' hS' => .idxL (E := encN .i64) sl27 rfl rfl (hS'.rdPool 1 rfl x (hsub _ (hinp _ (mem_of_get hx)))) (by omega)) hS_20 <| .e rfl (fun w' hS' => .ldL (E := encN .i64) scal3 rfl (hS'.rdPool 1 rfl x (hsub _ (hinp _ (mem_of_get hx)))) hxa (by decide) rfl) hS_20 <| .m rfl rfl hS_20 <| .m rfl rfl hS_20 <| .e rfl (fun w' hS' => .addI (b := 1) rfl rfl (by omega)) hS_20 <| .e rfl (fun w' hS' => .idxL (E := encRI) sl172 rfl rfl (hS'.rdRows 2 rfl hp) (by omega)) hS_20 <| .e rfl (fun w' hS' => .fldL (E := encRI) fld174_2 rfl (hS'.rdRows 2 rfl hp) (by omega) (by decide)) hS_20 <| .e rfl (fun w' hS' => .ldLF (E := encRI) scal27 rfl (hS'.rdRows 2 rfl hp) hy (by decide) rfl) hS_20 <| .m rfl rfl hS_20 <| .e rfl (fun w' hS' => .idxL (E := encN .i64) sl27 rfl rfl (hS'.rdPool 1 rfl y (hsub _ (hinp _ (mem_of_get hy)))) (by omega)) hS_20 <| .e rfl (fun w' hS' => .ldL (E := encN .i64) scal3 rfl (hS'.rdPool 1 rfl y (hsub _ (hinp _ (mem_of_get hy)))) hya (by decide) rfl) hS_20 <| .e rfl (fun w' hS' => .addI rfl rfl (by omega)) hS_20 <| .e rfl (fun w' hS' => .idxS sl27 rfl rfl hshp_1 (by omega)) hS_20 <| .f rfl (.setL (a := (xa + ya)) 4 one3 hs_71 rfl rfl rfl rfl (by first | omega | (simp; omega) | (rw [oneT_length (by omega)]; omega) | (simp only [List.length_set]; omega)) fun w_36 hs_72 hch_30 => ?_)
              have hS_21 : Sat w [_, _, _, _, _] _ := hs_72.sub ((.cons_cons _ (.cons_cons _ (.cons_cons _ (.cons_cons _ (.cons _ (.cons_cons _ .slnil)))))))
              refine ⟨hS_21, ?_⟩
              refine .fin <| .region <| .e rfl (.addI (b := 1) rfl rfl (by omega)) <| .m rfl rfl <| .nil ?_
              have hs_73 : Sat w [cL v_1 3 (encN .i64) (oneZ c), cPool (pool2), cRows 174 encRI (ps), cL pv 174 (encRI) (pk), cL sv_3.val 3 (encN .i64) (vaT x.occ y.occ (s + 1)), cObj b_3 174 [(.int .i64 ((x.w + y.w) : Nat)), (.bool false), sv_3.val]] w_36 := by
                have hq : (vaT x.occ y.occ s).set s (xa + ya) = vaT x.occ y.occ (s + 1) := by rw [vaT_set hxl hyl hxa hya]
                rw [← hq]; exact hs_72
              exact ⟨s + 1, ⟨rfl, rfl, rfl, rfl, rfl, rfl, rfl, rfl, rfl, rfl, rfl, rfl, trivial⟩, ⟨hs_73, by omega⟩, (show (c.length - (s + 1)) < (c.length - s) from by omega)⟩
            · refine .exit0 ?_
              have hs_74 : Sat w [cL v_1 3 (encN .i64) (oneZ c), cPool (pool2), cRows 174 encRI (ps), cL pv 174 (encRI) (pk), cL sv_3.val 3 (encN .i64) (vadd x.occ y.occ), cObj b_3 174 [(.int .i64 ((x.w + y.w) : Nat)), (.bool false), sv_3.val]] w_35 := by
                have hq : vaT x.occ y.occ s = vadd x.occ y.occ := by rw [show s = c.length by omega, vaT_all hxl hyl]
                rw [← hq]; exact hs_70
              have hs_75 : Sat w [cL v_1 3 (encN .i64) (oneZ c), cPool (pool2), cRows 174 encRI (ps), cL pv 174 (encRI) (pk), cObj b_3 174 [(.int .i64 ((x.w + y.w) : Nat)), (.bool false), sv_3.val], cL sv_3.val 3 (encN .i64) (vadd x.occ y.occ)] w_35 := ((Sat.order [0, 1, 2, 3, 5, 4] (by decide) hs_74.tail).untail).sub ((.cons_cons _ (.cons_cons _ (.cons_cons _ (.cons_cons _ (.cons_cons _ (.cons_cons _ .slnil)))))))
              have hs_76 : Sat w [cL v_1 3 (encN .i64) (oneZ c), cPool (pool2 ++ [(⟨x.w + y.w, false, sv_3, vadd x.occ y.occ⟩ : RI)]), cRows 174 encRI (ps), cL pv 174 (encRI) (pk), cObj b_3 174 [(.int .i64 ((x.w + y.w) : Nat)), (.bool false), sv_3.val]] w_35 := Sat.pushPool (A := [cL v_1 3 (encN .i64) (oneZ c), cPool (pool2), cRows 174 encRI (ps), cL pv 174 (encRI) (pk), cObj b_3 174 [(.int .i64 ((x.w + y.w) : Nat)), (.bool false), sv_3.val]]) hs_75 1 rfl
              refine .region <| .m rfl rfl <| .e rfl (.ldObj agg174 rfl hs_76 (i := 4) rfl rfl) <| .f rfl (.lit1A (encRI) (⟨x.w + y.w, false, sv_3, vadd x.occ y.occ⟩ : RI) sl172 (by decide) (by decide) hs_76 rfl fun v_20 w_37 hs_77 hch_31 => ?_)
              refine .f rfl (.appendL 3 sl172 hs_77 rfl rfl rfl Tryz.underlying172 (hs_77.rdL 5 rfl) (by simp; omega) (by simp; omega) fun v_21 w_38 hs_78 hch_32 => ?_)
              have hs_78d : Sat w [_, _, _, cL v_21 174 (encRI) (pk ++ [(⟨x.w + y.w, false, sv_3, vadd x.occ y.occ⟩ : RI)]), _] _ := hs_78.drop 5
              refine .s rfl rfl <| .nil <| .region <| .m rfl rfl <| .e rfl (.addI (b := 2) rfl rfl (by omega)) <| .s rfl rfl <| .nil ?_
              have hs_79 : Sat w [_, _, _, _] w_38 := hs_78d.sub ((.cons_cons _ (.cons_cons _ (.cons_cons _ (.cons_cons _ (.cons _ .slnil))))))
              exact ⟨(t + 1, v_21, pk ++ [(⟨x.w + y.w, false, sv_3, vadd x.occ y.occ⟩ : RI)], pool2 ++ [(⟨x.w + y.w, false, sv_3, vadd x.occ y.occ⟩ : RI)]), ⟨rfl, rfl, rfl, rfl, rfl, rfl, rfl, rfl, trivial⟩, ⟨hs_79, by omega, by rw [List.map_append, hpk, List.map_take, List.map_take, epk_snoc t _ (wo x) (wo y) (by rw [List.getElem?_map, hx]; rfl) (by rw [List.getElem?_map, hy]; rfl)]; rfl, fun z hz => List.mem_append_left _ (hsub z hz), fun z hz => by
          rcases List.mem_append.1 hz with hz | hz
          · exact List.mem_append_left _ (hinpk z hz)
          · exact List.mem_append_right _ hz, by simp; omega⟩, (show (p.2.length - 2 * (t + 1)) < (p.2.length - 2 * t) from by omega)⟩
          · skip
            have hS_22 : Sat w [_, _, _, _] _ := hs_65.sub ((.cons_cons _ (.cons_cons _ (.cons_cons _ (.cons_cons _ (.cons _ .slnil))))))
            refine ⟨hS_22, ?_⟩
            refine .f rfl (.makeL (encN .i64) (0) sl27 rfl hs_65 rfl rfl (by omega) (by omega) (by omega) fun v_22 w_39 hs_80 hch_33 => ?_)
            obtain ⟨sv_4, hsv_4, hsv_4n⟩ := (hs_80.rdL 5 rfl).sv
            subst hsv_4
            have hS_23 : Sat w [_, _, _, _] _ := hs_80.sub ((.cons_cons _ (.cons_cons _ (.cons_cons _ (.cons_cons _ (.cons _ (.cons _ .slnil)))))))
            refine ⟨hS_23, ?_⟩
            refine .e rfl (fun w' hS' => .build bt174 rfl ⟨rfl, rfl, trivial⟩ rfl) hS_23 <| .f rfl (.storeObjA (vs := [(.int .i64 ((x.w + y.w) : Nat)), (.bool false), sv_4.val]) agg174 hs_80 (i := 4) rfl rfl rfl rfl (fun v h => by simp only [List.mem_cons, List.not_mem_nil, or_false] at h; rcases h with rfl | rfl | rfl; exact rfl; exact rfl; exact rfl) fun w_40 hs_81 hch_34 => ?_)
            have hs_81d : Sat w [cL v_1 3 (encN .i64) (oneZ c), cPool (pool2), cRows 174 encRI (ps), cL pv 174 (encRI) (pk), cObj b_2 174 [(.int .i64 ((x.w + y.w) : Nat)), (.bool false), sv_4.val], cL sv_4.val 3 (encN .i64) (List.replicate (c.length) 0)] _ := hs_81
            have hS_24 : Sat w [_, _, _, _] _ := hs_81d.sub ((.cons_cons _ (.cons_cons _ (.cons_cons _ (.cons_cons _ (.cons _ (.cons _ .slnil)))))))
            refine ⟨hS_24, ?_⟩
            refine .fin ?_
            have hs_82 : Sat w [cL v_1 3 (encN .i64) (oneZ c), cPool (pool2), cRows 174 encRI (ps), cL pv 174 (encRI) (pk), cL sv_4.val 3 (encN .i64) (List.replicate (c.length) 0), cObj b_2 174 [(.int .i64 ((x.w + y.w) : Nat)), (.bool false), sv_4.val]] w_40 := ((Sat.order [0, 1, 2, 3, 5, 4] (by decide) hs_81d.tail).untail).sub ((.cons_cons _ (.cons_cons _ (.cons_cons _ (.cons_cons _ (.cons_cons _ (.cons_cons _ .slnil)))))))
            refine .seq <| .seq <| .region <| .m rfl rfl <| .e rfl (.lenL Tryz.underlying27 rfl (hv.ext hs_82.ext)) <| .m rfl rfl <| .nil <| .block ?_
            have hs_83 : Sat w [cL v_1 3 (encN .i64) (oneZ c), cPool (pool2), cRows 174 encRI (ps), cL pv 174 (encRI) (pk), cL sv_4.val 3 (encN .i64) (vaT x.occ y.occ 0), cObj b_2 174 [(.int .i64 ((x.w + y.w) : Nat)), (.bool false), sv_4.val]] w_40 := by
              have hq : List.replicate (c.length) 0 = vaT x.occ y.occ 0 := by rw [vaT_zero, hxl]
              rw [← hq]; exact hs_82
            refine .loop (α := Nat) (fun s => [(0, v), (1, (.int .i64 (15 : Nat))), (7, v_1), (8, sv_2.val), (13, p.1.val), (14, (.int .i64 m)), (15, pv), (16, (.int .i64 ((2 * t) : Nat))), (17, (.pointer (some ⟨b_2, 0, none⟩))), (113, v), (114, (.int .i64 c.length)), (115, (.int .i64 s))]) (fun s w' => Sat w [cL v_1 3 (encN .i64) (oneZ c), cPool (pool2), cRows 174 encRI (ps), cL pv 174 (encRI) (pk), cL sv_4.val 3 (encN .i64) (vaT x.occ y.occ s), cObj b_2 174 [(.int .i64 ((x.w + y.w) : Nat)), (.bool false), sv_4.val]] w' ∧ (s ≤ c.length)) (fun s => c.length - s) 0 ⟨rfl, rfl, rfl, rfl, rfl, rfl, rfl, rfl, rfl, rfl, rfl, rfl, trivial⟩ ⟨hs_83, Nat.zero_le _⟩ ?_
            rintro s w_41 ⟨hs_84, hsn⟩
            show CW _ _ _ _ [(0, v), (1, (.int .i64 (15 : Nat))), (7, v_1), (8, sv_2.val), (13, p.1.val), (14, (.int .i64 m)), (15, pv), (16, (.int .i64 ((2 * t) : Nat))), (17, (.pointer (some ⟨b_2, 0, none⟩))), (113, v), (114, (.int .i64 c.length)), (115, (.int .i64 s))] _
            refine .seq <| .region <| .e rfl (.lssN rfl rfl) <| .nil <| .seq <| .condD rfl (fun hc_8 => ?_) (fun hc_8 => ?_)
            · refine .skip <| .seq <| .block <| .seq <| .region <| .m rfl rfl <| .s rfl rfl <| .nil ?_
              obtain ⟨xa, hxa⟩ : ∃ xa, (x.occ)[s]? = some xa := ⟨_, List.getElem?_eq_getElem (by omega)⟩
              obtain ⟨ya, hya⟩ : ∃ ya, (y.occ)[s]? = some ya := ⟨_, List.getElem?_eq_getElem (by omega)⟩
              have hxab := hxo _ (mem_of_get hxa)
              have hyab := hyo _ (mem_of_get hya)
              have hvl := vaT_length (s := s) hxl hyl (by omega)
              have hshp_2 := (hs_84.rdL (E := encN .i64) 4 rfl).shp (by decide)
              refine .draw (fun w' => Sat w [cL v_1 3 (encN .i64) (oneZ c), cPool (pool2), cRows 174 encRI (ps), cL pv 174 (encRI) (pk), cObj b_2 174 [(.int .i64 ((x.w + y.w) : Nat)), (.bool false), sv_4.val]] w') (.free 0 (.free 1 (.free 2 (.free 3 (.free 4 (.free 5 (.free 6 (.free 7 (.free 8 (.free 9 (.free 10 (.free 11 (.free 12 (.free 13 (.free 14 (.free 15 (.free 16 (.free 17 (.free 18 (.free 19 (.free 20 (.free 21 (.one 22 .fin))))))))))))))))))))))) mixed (by kernel_rfl) ?_
              have hs_85 := hs_84.drew
              have hS_25 : Sat w [_, _, _, _, _] _ := hs_85.sub ((.cons_cons _ (.cons_cons _ (.cons_cons _ (.cons_cons _ (.cons _ (.cons_cons _ .slnil)))))))
              refine .e rfl (fun w' hS' => .fieldAddr fld174_2 rfl rfl) hS_25 <| .e rfl (fun w' hS' => .load scal27 rfl (hS'.cell (i := 4) (j := 2) rfl rfl)) hS_25 <| .m rfl rfl hS_25 <| .m rfl rfl hS_25 <| .m rfl rfl hS_25 <| .e rfl (fun w' hS' => .idxL (E := encRI) sl172 rfl rfl (hS'.rdRows 2 rfl hp) (by omega)) hS_25 <| .e rfl (fun w' hS' => .fldL (E := encRI) fld174_2 rfl (hS'.rdRows 2 rfl hp) (by omega) (by decide)) hS_25 <| .e rfl (fun w' hS' => .ldLF (E := encRI) scal27 rfl (hS'.rdRows 2 rfl hp) hx (by decide) rfl) hS_25 <| .m rfl rfl hS_25 <| .e rfl (fun w' hS' => .idxL (E := encN .i64) sl27 rfl rfl (hS'.rdPool 1 rfl x (hsub _ (hinp _ (mem_of_get hx)))) (by omega)) hS_25 <| .e rfl (fun w' hS' => .ldL (E := encN .i64) scal3 rfl (hS'.rdPool 1 rfl x (hsub _ (hinp _ (mem_of_get hx)))) hxa (by decide) rfl) hS_25 <| .m rfl rfl hS_25 <| .m rfl rfl hS_25 <| .e rfl (fun w' hS' => .addI (b := 1) rfl rfl (by omega)) hS_25 <| .e rfl (fun w' hS' => .idxL (E := encRI) sl172 rfl rfl (hS'.rdRows 2 rfl hp) (by omega)) hS_25 <| .e rfl (fun w' hS' => .fldL (E := encRI) fld174_2 rfl (hS'.rdRows 2 rfl hp) (by omega) (by decide)) hS_25 <| .e rfl (fun w' hS' => .ldLF (E := encRI) scal27 rfl (hS'.rdRows 2 rfl hp) hy (by decide) rfl) hS_25 <| .m rfl rfl hS_25 <| .e rfl (fun w' hS' => .idxL (E := encN .i64) sl27 rfl rfl (hS'.rdPool 1 rfl y (hsub _ (hinp _ (mem_of_get hy)))) (by omega)) hS_25 <| .e rfl (fun w' hS' => .ldL (E := encN .i64) scal3 rfl (hS'.rdPool 1 rfl y (hsub _ (hinp _ (mem_of_get hy)))) hya (by decide) rfl) hS_25 <| .e rfl (fun w' hS' => .addI rfl rfl (by omega)) hS_25 <| .e rfl (fun w' hS' => .idxS sl27 rfl rfl hshp_2 (by omega)) hS_25 <| .f rfl (.setL (a := (xa + ya)) 4 one3 hs_85 rfl rfl rfl rfl (by first | omega | (simp; omega) | (rw [oneT_length (by omega)]; omega) | (simp only [List.length_set]; omega)) fun w_42 hs_86 hch_35 => ?_)
              have hS_26 : Sat w [_, _, _, _, _] _ := hs_86.sub ((.cons_cons _ (.cons_cons _ (.cons_cons _ (.cons_cons _ (.cons _ (.cons_cons _ .slnil)))))))
              refine ⟨hS_26, ?_⟩
              refine .fin <| .region <| .e rfl (.addI (b := 1) rfl rfl (by omega)) <| .m rfl rfl <| .nil ?_
              have hs_87 : Sat w [cL v_1 3 (encN .i64) (oneZ c), cPool (pool2), cRows 174 encRI (ps), cL pv 174 (encRI) (pk), cL sv_4.val 3 (encN .i64) (vaT x.occ y.occ (s + 1)), cObj b_2 174 [(.int .i64 ((x.w + y.w) : Nat)), (.bool false), sv_4.val]] w_42 := by
                have hq : (vaT x.occ y.occ s).set s (xa + ya) = vaT x.occ y.occ (s + 1) := by rw [vaT_set hxl hyl hxa hya]
                rw [← hq]; exact hs_86
              exact ⟨s + 1, ⟨rfl, rfl, rfl, rfl, rfl, rfl, rfl, rfl, rfl, rfl, rfl, rfl, trivial⟩, ⟨hs_87, by omega⟩, (show (c.length - (s + 1)) < (c.length - s) from by omega)⟩
            · refine .exit0 ?_
              have hs_88 : Sat w [cL v_1 3 (encN .i64) (oneZ c), cPool (pool2), cRows 174 encRI (ps), cL pv 174 (encRI) (pk), cL sv_4.val 3 (encN .i64) (vadd x.occ y.occ), cObj b_2 174 [(.int .i64 ((x.w + y.w) : Nat)), (.bool false), sv_4.val]] w_41 := by
                have hq : vaT x.occ y.occ s = vadd x.occ y.occ := by rw [show s = c.length by omega, vaT_all hxl hyl]
                rw [← hq]; exact hs_84
              have hs_89 : Sat w [cL v_1 3 (encN .i64) (oneZ c), cPool (pool2), cRows 174 encRI (ps), cL pv 174 (encRI) (pk), cObj b_2 174 [(.int .i64 ((x.w + y.w) : Nat)), (.bool false), sv_4.val], cL sv_4.val 3 (encN .i64) (vadd x.occ y.occ)] w_41 := ((Sat.order [0, 1, 2, 3, 5, 4] (by decide) hs_88.tail).untail).sub ((.cons_cons _ (.cons_cons _ (.cons_cons _ (.cons_cons _ (.cons_cons _ (.cons_cons _ .slnil)))))))
              have hs_90 : Sat w [cL v_1 3 (encN .i64) (oneZ c), cPool (pool2 ++ [(⟨x.w + y.w, false, sv_4, vadd x.occ y.occ⟩ : RI)]), cRows 174 encRI (ps), cL pv 174 (encRI) (pk), cObj b_2 174 [(.int .i64 ((x.w + y.w) : Nat)), (.bool false), sv_4.val]] w_41 := Sat.pushPool (A := [cL v_1 3 (encN .i64) (oneZ c), cPool (pool2), cRows 174 encRI (ps), cL pv 174 (encRI) (pk), cObj b_2 174 [(.int .i64 ((x.w + y.w) : Nat)), (.bool false), sv_4.val]]) hs_89 1 rfl
              refine .region <| .m rfl rfl <| .e rfl (.ldObj agg174 rfl hs_90 (i := 4) rfl rfl) <| .f rfl (.lit1A (encRI) (⟨x.w + y.w, false, sv_4, vadd x.occ y.occ⟩ : RI) sl172 (by decide) (by decide) hs_90 rfl fun v_23 w_43 hs_91 hch_36 => ?_)
              refine .f rfl (.appendL 3 sl172 hs_91 rfl rfl rfl Tryz.underlying172 (hs_91.rdL 5 rfl) (by simp; omega) (by simp; omega) fun v_24 w_44 hs_92 hch_37 => ?_)
              have hs_92d : Sat w [_, _, _, cL v_24 174 (encRI) (pk ++ [(⟨x.w + y.w, false, sv_4, vadd x.occ y.occ⟩ : RI)]), _] _ := hs_92.drop 5
              refine .s rfl rfl <| .nil <| .region <| .m rfl rfl <| .e rfl (.addI (b := 2) rfl rfl (by omega)) <| .s rfl rfl <| .nil ?_
              have hs_93 : Sat w [_, _, _, _] w_44 := hs_92d.sub ((.cons_cons _ (.cons_cons _ (.cons_cons _ (.cons_cons _ (.cons _ .slnil))))))
              exact ⟨(t + 1, v_24, pk ++ [(⟨x.w + y.w, false, sv_4, vadd x.occ y.occ⟩ : RI)], pool2 ++ [(⟨x.w + y.w, false, sv_4, vadd x.occ y.occ⟩ : RI)]), ⟨rfl, rfl, rfl, rfl, rfl, rfl, rfl, rfl, trivial⟩, ⟨hs_93, by omega, by rw [List.map_append, hpk, List.map_take, List.map_take, epk_snoc t _ (wo x) (wo y) (by rw [List.getElem?_map, hx]; rfl) (by rw [List.getElem?_map, hy]; rfl)]; rfl, fun z hz => List.mem_append_left _ (hsub z hz), fun z hz => by
          rcases List.mem_append.1 hz with hz | hz
          · exact List.mem_append_left _ (hinpk z hz)
          · exact List.mem_append_right _ hz, by simp; omega⟩, (show (p.2.length - 2 * (t + 1)) < (p.2.length - 2 * t) from by omega)⟩
        · refine .exit0 ?_
          have hpkE : pk.map wo = epk (eLv c (m - 1)) := by rw [hpk, List.map_take, epk_all t _ (by rw [List.length_map]; omega), hpw]
          refine .region <| .m rfl rfl <| .m rfl rfl <| .f rfl (.call ent119 rfl ((rmerge_ok _ _ (lv) (pk) _ (show RdL _ sv_2.val encRI lv from hs_62.rdRows 2 rfl hp0) (hs_62.rdL 3 rfl) (by omega) (by omega)).mono fun r_2 w_45 h_2 => ?_))
          have hp_2 := h_2
          have hs_94 := hs_62.adds hp_2
          obtain ⟨sv_5, hsv_5, hsv_5n⟩ := (hs_94.rdL 4 rfl).sv
          subst hsv_5
          refine .s rfl rfl <| .nil <| .region <| .m rfl rfl <| .e rfl (.addI (b := 1) rfl rfl (by omega)) <| .s rfl rfl <| .nil ?_
          have hs_95 : Sat w [_, _, _, cL sv_5.val 174 (encRI) (mrgR lv pk)] w_45 := hs_94.sub ((.cons_cons _ (.cons_cons _ (.cons_cons _ (.cons _ (.cons_cons _ .slnil))))))
          have hs_96 : Sat w [cL v_1 3 (encN .i64) (oneZ c), cPool (pool2), cRows 174 encRI (ps ++ [(sv_5, mrgR lv pk)])] w_45 := Sat.pushRows (A := [cL v_1 3 (encN .i64) (oneZ c), cPool (pool2), cRows 174 encRI (ps)]) hs_95 2 rfl
          exact ⟨(m + 1, pool2, ps ++ [(sv_5, mrgR lv pk)], (sv_5, mrgR lv pk), ps.length), ⟨rfl, rfl, rfl, rfl, rfl, rfl, trivial⟩, ⟨hs_96, by omega, by omega, by rw [List.getElem?_append_left (lt_of_get hp0)]; exact hp0, by simp, by rw [show m + 1 - 1 = (m - 1) + 1 by omega]; show (mrgR lv pk).map wo = _; rw [mrgR_wo, hlvE, hpkE]; rfl, fun z hz => hsub z (hinl z hz), fun z hz => by
        rcases mrgR_mem.1 hz with hz | hz
        · exact hsub z (hinl z hz)
        · exact hinpk z hz⟩, (show (15 - (m + 1)) < (15 - m) from by omega)⟩
      · refine .exit0 <| .seq <| .seq ?_
        have hm : m = 15 := by omega
        subst hm
        have hp14 : p.2.map wo = eLv c 14 := hpw
        have hpl : p.2.length = (lvl c 14).length := by have := congrArg List.length hp14; rw [List.length_map, eLv_length] at this; exact this
        have htop := take_top c (by omega) (by omega)
        refine .region <| .m rfl rfl <| .e rfl (.lenL Tryz.underlying27 rfl (hv.ext hs_60.ext)) <| .m rfl rfl <| .nil <| .block <| .loop (α := Nat × List Nat) (fun (s, cur) => [(7, v_1), (8, sv_2.val), (13, p.1.val), (148, v), (149, (.int .i64 c.length)), (150, (.int .i64 s))]) (fun (s, cur) w' => Sat w [cL v_1 3 (encN .i64) (cur), cPool (pool), cRows 174 encRI (ps)] w' ∧ (s ≤ c.length) ∧ (cur.length = c.length) ∧ (∀ j, j < s → cur[j]? = some ((lensN c).getD j 0))) (fun (s, cur) => c.length - s) (0, oneZ c) ⟨rfl, rfl, rfl, rfl, rfl, rfl, trivial⟩ ⟨hs_60, Nat.zero_le _, by simp [oneZ], fun j hj => by omega⟩ ?_
        rintro ⟨s, cur⟩ w_46 ⟨hs_97, hsn, hcl, hcur⟩
        show CW _ _ _ _ [(7, v_1), (8, sv_2.val), (13, p.1.val), (148, v), (149, (.int .i64 c.length)), (150, (.int .i64 s))] _
        refine .seq <| .region <| .e rfl (.lssN rfl rfl) <| .nil <| .seq <| .condD rfl (fun hc_9 => ?_) (fun hc_9 => ?_)
        · refine .skip <| .seq <| .block <| .seq <| .region <| .m rfl rfl <| .s rfl rfl <| .nil <| .seq <| .region <| .m rfl rfl <| .m rfl rfl <| .e rfl (.idxL (E := encN .i64) sl27 rfl rfl (hs_97.rdL 0 rfl) (by omega)) <| .f rfl (.setL (a := 0) 0 one3 hs_97 rfl rfl rfl rfl (by first | omega | (simp; omega) | (rw [oneT_length (by omega)]; omega) | (simp only [List.length_set]; omega)) fun w_47 hs_98 hch_38 => ?_)
          refine .nil <| .seq <| .region <| .m rfl rfl <| .m rfl rfl <| .e rfl (.lenL Tryz.underlying172 rfl (show RdL _ sv_2.val encRI lv from hs_98.rdRows 2 rfl hp0)) <| .e rfl (.mulI (a := 2) rfl rfl (by omega)) <| .e rfl (.subI (b := 2) rfl rfl (by omega) (by omega)) <| .e rfl (.sliceL (E := encRI) (a := 0) (c := ((2 * lv.length) - 2)) sl172 rfl (hs_98.rdRows 2 rfl hp) rfl ⟨_, rfl⟩ (Nat.zero_le _) (by omega)) <| .e rfl (.lenL Tryz.underlying172 rfl (((hs_98.rdRows 2 rfl hp)).sub (a := 0) (b := ((2 * lv.length) - 2)) (Nat.zero_le _) (by omega))) <| .m rfl rfl <| .nil <| .block ?_
          have hs_99 : Sat w [cL v_1 3 (encN .i64) (cur.set s (tot (((((p.2).take ((2 * lv.length) - 2)).drop 0).take 0).map RI.occ) s)), cPool (pool), cRows 174 encRI (ps)] w_47 := by
            have hq : cur.set s 0 = cur.set s (tot (((((p.2).take ((2 * lv.length) - 2)).drop 0).take 0).map RI.occ) s) := by simp [tot]
            rw [← hq]; exact hs_98
          refine .loop (α := Nat) (fun q => [(7, v_1), (8, sv_2.val), (13, p.1.val), (19, (.int .i64 s)), (148, v), (149, (.int .i64 c.length)), (150, (.int .i64 s)), (161, (subSl (encRI).s p.1.val 0 ((2 * lv.length) - 2))), (162, (.int .i64 ((((p.2).take ((2 * lv.length) - 2)).drop 0).length : Nat))), (163, (.int .i64 q))]) (fun q w' => Sat w [cL v_1 3 (encN .i64) (cur.set s (tot (((((p.2).take ((2 * lv.length) - 2)).drop 0).take q).map RI.occ) s)), cPool (pool), cRows 174 encRI (ps)] w' ∧ (q ≤ (((p.2).take ((2 * lv.length) - 2)).drop 0).length) ∧ (tot (((((p.2).take ((2 * lv.length) - 2)).drop 0).take q).map RI.occ) s ≤ q * 2 ^ 14)) (fun q => (((p.2).take ((2 * lv.length) - 2)).drop 0).length - q) 0 ⟨rfl, rfl, rfl, rfl, rfl, rfl, rfl, rfl, rfl, rfl, trivial⟩ ⟨hs_99, Nat.zero_le _, by simp [tot]⟩ ?_
          rintro q w_48 ⟨hs_100, hq, hacc⟩
          show CW _ _ _ _ [(7, v_1), (8, sv_2.val), (13, p.1.val), (19, (.int .i64 s)), (148, v), (149, (.int .i64 c.length)), (150, (.int .i64 s)), (161, (subSl (encRI).s p.1.val 0 ((2 * lv.length) - 2))), (162, (.int .i64 ((((p.2).take ((2 * lv.length) - 2)).drop 0).length : Nat))), (163, (.int .i64 q))] _
          refine .seq <| .region <| .e rfl (.lssN rfl rfl) <| .nil <| .seq <| .condD rfl (fun hc_10 => ?_) (fun hc_10 => ?_)
          · refine .skip <| .seq <| .block <| .seq ?_
            obtain ⟨x, hx⟩ : ∃ x, (((p.2).take ((2 * lv.length) - 2)).drop 0)[q]? = some x := ⟨_, List.getElem?_eq_getElem hc_10⟩
            have hxtl : (((p.2).take ((2 * lv.length) - 2)).drop 0).length ≤ 2048 := by have := (lvl_length c 14).2; simp; omega
            refine .region <| .e rfl (.idxL (E := encRI) sl172 rfl rfl (((hs_100.rdRows 2 rfl hp)).sub (a := 0) (b := ((2 * lv.length) - 2)) (Nat.zero_le _) (by omega)) (by omega)) <| .e rfl (.ldAgg (E := encRI) agg174 rfl (((hs_100.rdRows 2 rfl hp)).sub (a := 0) (b := ((2 * lv.length) - 2)) (Nat.zero_le _) (by omega)) hx (by decide)) <| .f rfl (.alloc hs_100 zero174 fun b_4 w_49 hs_101 hch_39 hb_4 => ?_)
            refine .f rfl (.storeObjA (vs := (encRI).enc x) agg174 hs_101 (i := 3) rfl rfl rfl rfl ((encRI).one _) fun w_50 hs_102 hch_40 => ?_)
            refine .nil ?_
            have hxm : x ∈ p.2 := List.mem_of_mem_take (List.mem_of_mem_drop (mem_of_get hx))
            have hxe : wo x ∈ eLv c 14 := by rw [← hp14]; exact List.mem_map_of_mem hxm
            have hxl : x.occ.length = c.length := eLv_len c _ _ hxe
            obtain ⟨xa, hxa⟩ : ∃ xa, (x.occ)[s]? = some xa := ⟨_, List.getElem?_eq_getElem (by omega)⟩
            have hxab : xa ≤ 2 ^ 14 := eLv_le c _ _ hxe _ (mem_of_get hxa)
            have hgs : (cur.set s (tot (((((p.2).take ((2 * lv.length) - 2)).drop 0).take q).map RI.occ) s))[s]? = some (tot (((((p.2).take ((2 * lv.length) - 2)).drop 0).take q).map RI.occ) s) := List.getElem?_set_self (by omega)
            have htq : tot (((((p.2).take ((2 * lv.length) - 2)).drop 0).take (q + 1)).map RI.occ) s = tot (((((p.2).take ((2 * lv.length) - 2)).drop 0).take q).map RI.occ) s + xa := by rw [take_succ_of hx, List.map_append, List.map_cons, List.map_nil, tot_snoc, getD_some hxa]
            have hshp_3 := (hs_102.rdL (E := encN .i64) 0 rfl).shp (by decide)
            refine .draw (fun w' => Sat w [cPool (pool), cRows 174 encRI (ps), cObj b_4 174 [(.int .i64 x.w), (.bool x.leaf), x.sv.val]] w') (.free 0 (.free 1 (.free 2 (.free 4 (.free 5 (.free 6 (.free 7 (.free 8 (.one 3 (.free 9 (.free 10 (.one 11 .fin)))))))))))) mixed (by kernel_rfl) ?_
            have hs_103 := hs_102.drew
            have hS_27 : Sat w [_, _, _] _ := hs_103.sub ((.cons _ (.cons_cons _ (.cons_cons _ (.cons_cons _ .slnil)))))
            refine .m rfl rfl hS_27 <| .m rfl rfl hS_27 <| .e rfl (fun w' hS' => .idxS sl27 rfl rfl hshp_3 (by (try simp only [List.length_set]); omega)) hS_27 <| .e rfl (fun w' hS' => .fieldAddr fld174_2 rfl rfl) hS_27 <| .e rfl (fun w' hS' => .load scal27 rfl (hS'.cell (i := 2) (j := 2) rfl rfl)) hS_27 <| .m rfl rfl hS_27 <| .e rfl (fun w' hS' => .idxL (E := encN .i64) sl27 rfl rfl (hS'.rdPool 0 rfl x ((hinp _ (List.mem_of_mem_take (List.mem_of_mem_drop (mem_of_get hx)))))) (by omega)) hS_27 <| .e rfl (fun w' hS' => .ldL (E := encN .i64) scal3 rfl (hS'.rdPool 0 rfl x ((hinp _ (List.mem_of_mem_take (List.mem_of_mem_drop (mem_of_get hx)))))) hxa (by decide) rfl) hS_27 <| .f rfl (.ev (Ev.ldL (E := encN .i64) scal3 rfl (hs_103.rdL 0 rfl) hgs (by decide) rfl) ⟨hS_27, ?_⟩)
            refine .e rfl (fun w' hS' => .addI rfl rfl (by omega)) hS_27 <| .e rfl (fun w' hS' => .idxS sl27 rfl rfl hshp_3 (by (try simp only [List.length_set]); omega)) hS_27 <| .f rfl (.setL (a := ((tot (((((p.2).take ((2 * lv.length) - 2)).drop 0).take q).map RI.occ) s) + xa)) 0 one3 hs_103 rfl rfl rfl rfl (by first | omega | (simp; omega) | (rw [oneT_length (by omega)]; omega) | (simp only [List.length_set]; omega)) fun w_51 hs_104 hch_41 => ?_)
            have hS_28 : Sat w [_, _, _] _ := hs_104.sub ((.cons _ (.cons_cons _ (.cons_cons _ (.cons_cons _ .slnil)))))
            refine ⟨hS_28, ?_⟩
            refine .fin <| .region <| .e rfl (.addI (b := 1) rfl rfl (by omega)) <| .m rfl rfl <| .nil ?_
            have hs_105 : Sat w [cL v_1 3 (encN .i64) ((cur.set s (tot (((((p.2).take ((2 * lv.length) - 2)).drop 0).take q).map RI.occ) s)).set s ((tot (((((p.2).take ((2 * lv.length) - 2)).drop 0).take q).map RI.occ) s) + xa)), _, _] w_51 := hs_104.sub ((.cons_cons _ (.cons_cons _ (.cons_cons _ (.cons _ .slnil)))))
            have hs_106 : Sat w [cL v_1 3 (encN .i64) (cur.set s (tot (((((p.2).take ((2 * lv.length) - 2)).drop 0).take (q + 1)).map RI.occ) s)), cPool (pool), cRows 174 encRI (ps)] w_51 := by
              have hq : (cur.set s (tot (((((p.2).take ((2 * lv.length) - 2)).drop 0).take q).map RI.occ) s)).set s ((tot (((((p.2).take ((2 * lv.length) - 2)).drop 0).take q).map RI.occ) s) + xa) = cur.set s (tot (((((p.2).take ((2 * lv.length) - 2)).drop 0).take (q + 1)).map RI.occ) s) := by rw [htq, List.set_set]
              rw [← hq]; exact hs_105
            exact ⟨q + 1, ⟨rfl, rfl, rfl, rfl, rfl, rfl, rfl, rfl, rfl, rfl, trivial⟩, ⟨hs_106, by omega, by omega⟩, (show ((((p.2).take ((2 * lv.length) - 2)).drop 0).length - (q + 1)) < ((((p.2).take ((2 * lv.length) - 2)).drop 0).length - q) from by omega)⟩
          · refine .exit0 <| .region <| .e rfl (.addI (b := 1) rfl rfl (by omega)) <| .m rfl rfl <| .nil ?_
            exact ⟨(s + 1, cur.set s (tot (((((p.2).take ((2 * lv.length) - 2)).drop 0).take q).map RI.occ) s)), ⟨rfl, rfl, rfl, rfl, rfl, rfl, trivial⟩, ⟨hs_100, by omega, by simp only [List.length_set]; exact hcl, fun j hj => by
        by_cases e : j = s
        · subst e; rw [List.getElem?_set_self (by omega), show q = (((p.2).take ((2 * lv.length) - 2)).drop 0).length by omega, List.take_length, show 2 * lv.length - 2 = 2 * (leaves c).length - 2 by omega, fin_tot hp14 (by omega) (by omega)]
        · rw [List.getElem?_set_ne (fun h => e h.symm)]; exact hcur j (by omega)⟩, (show (c.length - (s + 1)) < (c.length - s) from by omega)⟩
        · refine .exit0 <| .seq <| .region <| .m rfl rfl <| .s rfl rfl <| .s rfl rfl <| .nil <| .ret ?_
          show PostK _ _ _ _ _ _
          refine post2 rfl rfl rfl ?_
          have hs_107 : Sat w [cL v_1 3 (encN .i64) (cur)] w_46 := hs_97.sub ((.cons_cons _ (.cons _ (.cons _ .slnil))))
          have hfin : cur = lensN c := lens_fin (by omega) hcl hcur
          subst hfin
          exact ⟨_, rfl, hs_107⟩
end Go.Proofs.YtecfgjdpghddgaaGreat
