/- The walks of the functions of F22, printed by our own program (kwgen.py) out of our descriptions (base.py). -/
import Derived.Test.YtecfgjdpghddgaaGreatF13d
import Derived.Test.YtecfgjdpghddgaaGreatF16t
import Derived.Test.YtecfgjdpghddgaaGreatKx
import Derived.Test.YtecfgjdpghddgaaGreatTab
set_option linter.unusedVariables false
set_option linter.unusedSimpArgs false
set_option linter.unusedSectionVars false
namespace Go.Proofs.YtecfgjdpghddgaaGreat
open Go.RowKit Go.Kw
set_option maxRecDepth 100000
theorem counts_le {l : List ByteArray} {i c : Nat} (h : (countsN l)[i]? = some c) : c ≤ l.length := by
  unfold countsN at h
  rw [List.getElem?_map] at h
  obtain ⟨y, _, rfl⟩ := Option.map_eq_some_iff.1 h
  exact cnt_le l y
theorem bld_okW2 {vs : List ByteArray} (h : bldE vs = 0) : okW (wordsN vs) := chk_okW (bld_chk h)
theorem bld_120b {vs : List ByteArray} (h : bldE vs = 0) : ∀ x ∈ wordsN vs, x.size ≤ 120 := fun x hx => (chk_all (bld_chk h) x (wordsN_mem.1 hx)).1
theorem bld_c4 {vs : List ByteArray} (h : bldE vs = 0) : ∀ c ∈ countsN vs, 1 ≤ c ∧ c ≤ 4096 := fun c hc => by
  obtain ⟨i, hi⟩ := List.getElem?_of_mem hc
  have := counts_le hi
  have := bld_vlen h
  exact ⟨counts_pos hi, by omega⟩
theorem bld_1024 {vs : List ByteArray} (h : bldE vs = 0) : (wordsN vs).length ≤ 1024 := by
  unfold bldE at h
  split at h
  · cases h
  · split at h
    · rename_i h1 h2; exact absurd h h2
    · split at h
      · cases h
      · omega
theorem bld_sum {vs : List ByteArray} (h : bldE vs = 0) : (countsN vs).sum ≤ 4096 := by rw [counts_sum]; exact bld_vlen h
theorem tw_okn {vs : List ByteArray} (h : bldE vs = 0) : OkN (vs.map (lbW (wordsN vs))) :=
  ⟨by rw [List.length_map]; exact bld_vlen h, fun x hx => by
    obtain ⟨v, hv, rfl⟩ := List.mem_map.1 hx
    have h1 := (List.getElem?_eq_some_iff.1 (wordsN_get hv)).1
    have h2 := bld_1024 h
    omega⟩
set_option maxHeartbeats 2000000 in
theorem tokensWords_ok (v : Value) (vs : List ByteArray) (w : World) (hv : RdL w v encTx vs) (hn : vs.length ≤ 9223372036854775807) :
    CallsV Tryz.prog 4 [v] w fun r w' => r = .bool true ∧ Sat w [] w' := by
  have hs0 := Sat.start w
  refine callsV_of Tryz.func4 rfl rfl ?_
  refine .seq <| .region <| .s rfl rfl <| .nil <| .seq <| .seq <| .region <| .m rfl rfl <| .e rfl (.lenL Tryz.underlying36 rfl (hv.ext hs0.ext)) <| .e rfl (.gtrN (b := 100) rfl rfl) <| .nil <| .condD rfl (fun hc_1 => ?_) (fun hc_1 => ?_)
  · refine .seq <| .region <| .s rfl rfl <| .nil <| .ret ?_
    show PostK _ _ _ _ _ _
    refine post1 rfl rfl ?_
    have hs_1 : Sat w [] w := hs0.sub (.slnil)
    exact ⟨rfl, hs_1⟩
  · refine .skip <| .seq ?_
    rcases Decidable.em (bldE vs = 0) with he | he
    · refine .region <| .m rfl rfl <| .f rfl (.call ent12 rfl ((lbuild_good (hv.ext hs0.ext) he).mono fun r_1 w_1 h_1 => ?_))
      obtain ⟨lg_1, lvw_1, lvc_1, lvo_1, lvn_1, rfl, hp_1⟩ := h_1
      have hs_2 := hs0.adds hp_1
      refine .m rfl rfl <| .e rfl (.extract rfl rfl) <| .e rfl (.extract rfl rfl) <| .e rfl (.extract rfl rfl) <| .s rfl rfl <| .s rfl rfl <| .s rfl rfl <| .nil ?_
      obtain ⟨l, hl0⟩ : ∃ l, l = vs.map (lbW (wordsN vs)) := ⟨_, rfl⟩
      have hl : OkN l := by rw [hl0]; exact tw_okn he
      have hll : l.length = vs.length := by rw [hl0, List.length_map]
      have hs_3 : Sat w [cObj lg_1 71 [lvw_1, lvc_1, lvo_1], cL lvw_1 9 (encTx) (wordsN vs), cL lvc_1 3 (encN .i64) (countsN vs), cL lvo_1 3 (encN .i64) (ordN (wordsN vs)), cL lvn_1 3 (encN .i64) (l)] w_1 := by
        have hq : vs.map (lbW (wordsN vs)) = l := hl0.symm
        rw [← hq]; exact hs_2
      refine .seq <| .seq <| .region <| .m rfl rfl <| .e rfl (.neqN (a := 0) (b := 0) rfl rfl) <| .nil <| .condD rfl (fun hc_2 => ?_) (fun hc_2 => ?_)
      · refine .seq <| .region <| .s rfl rfl <| .nil <| .ret ?_
        show PostK _ _ _ _ _ _
        refine post1 rfl rfl ?_
        have hs_4 : Sat w [] w_1 := hs_3.sub ((.cons _ (.cons _ (.cons _ (.cons _ (.cons _ .slnil))))))
        exact ⟨rfl, hs_4⟩
      · refine .skip <| .seq <| .region <| .m rfl rfl <| .f rfl (.call ent13 rfl ((build_ok _ (l) _ (hs_3.rdL 4 rfl) (hl)).mono fun r_2 w_2 h_2 => ?_))
        obtain ⟨g_1, lv_1, bv_1, ps_1, rfl, hps_1, hp_2⟩ := h_2
        have hs_5 := hs_3.adds hp_2
        refine .m rfl rfl <| .e rfl (.extract rfl rfl) <| .e rfl (.extract rfl rfl) <| .s rfl rfl <| .s rfl rfl <| .nil <| .seq <| .seq <| .region <| .m rfl rfl <| .e rfl (.eqlPt Tryz.underlying37 rfl rfl) <| .m rfl rfl <| .yes rfl rfl rfl (rfl) <| .m rfl rfl <| .yes rfl rfl rfl (rfl) <| .e rfl (.neqN (a := 0) (b := 0) rfl rfl) <| .e rfl (.pickN rfl (rfl) rfl) <| .m rfl rfl <| .yes rfl rfl rfl (rfl) <| .m rfl rfl <| .yes rfl rfl rfl (rfl) <| .e rfl (.eqlPt Tryz.underlying23 rfl rfl) <| .e rfl (.pickN rfl (rfl) rfl) <| .m rfl rfl <| .yes rfl rfl rfl (rfl) <| .m rfl rfl <| .yes rfl rfl rfl (rfl) <| .f rfl (.call ent9 rfl ((slen_ok _ ((l).length) _ (hs_5.cell (i := 5) (j := 0) rfl rfl)).mono fun r_3 w_3 h_3 => ?_))
        obtain ⟨rfl, hp_3⟩ := h_3
        have hs_6 := hs_5.adds hp_3
        refine .yes rfl rfl rfl (rfl) <| .m rfl rfl <| .yes rfl rfl rfl (rfl) <| .e rfl (.lenL Tryz.underlying36 rfl (hv.ext hs_6.ext)) <| .yes rfl rfl rfl (rfl) <| .e rfl (.neqN rfl rfl) <| .e rfl (.pickN rfl (rfl) rfl) <| .nil <| .condF rfl (decide_eq_false (fun h9 => h9 hll)) <| .skip <| .seq <| .region <| .m rfl rfl <| .f rfl (.call ent15 rfl ((lexEnc_ok _ _ _ _ _ _ _ _ (hs_6.lexAt 0 1 2 3 rfl rfl rfl rfl) (countsN_length _) (bld_120b he) (fun c hc => ⟨(bld_c4 he c hc).1, by have := (bld_c4 he c hc).2; omega⟩) (by have := bld_1024 he; omega)).mono fun r_4 w_4 h_4 => ?_))
        have hp_4 := h_4
        have hs_7 : Sat w [_, _, _, _, _, _, _, _, _, _, cL r_4 5 (encN .u8) (sealN (encA (wordsN vs) (countsN vs) (wordsN vs).length))] _ := hs_6.adds hp_4
        refine .f rfl (.call ent14 rfl ((ldec_ok _ (sealN (encA (wordsN vs) (countsN vs) (wordsN vs).length)) (wordsN vs) (countsN vs) _ (hs_7.rdL 10 rfl) rfl (bld_okW2 he) (countsN_length _) (bld_120b he) (bld_c4 he) (bld_sum he) (bld_1024 he)).mono fun r_5 w_5 h_5 => ?_))
        obtain ⟨dg_1, dvw_1, dvc_1, dvo_1, rfl, hp_5⟩ := h_5
        have hs_8 := hs_7.adds hp_5
        refine .m rfl rfl <| .e rfl (.extract rfl rfl) <| .e rfl (.extract rfl rfl) <| .s rfl rfl <| .s rfl rfl <| .nil <| .seq <| .weaken [(0, _), (2, _), (3, _), (4, _), (5, _), (6, _), (7, _), (8, _), (9, _), (20, _), (28, _), (50, _)] ⟨rfl, rfl, rfl, rfl, rfl, rfl, rfl, rfl, rfl, rfl, rfl, rfl, trivial⟩ <| .region <| .m rfl rfl <| .f rfl (.call ent11 rfl ((sencode_ok g_1 ((l).length) (kindN l) lv_1 bv_1 (lensK l) ps_1 _ (hs_8.cell (i := 5) (j := 0) rfl rfl) (hs_8.cell (i := 5) (j := 1) rfl rfl) (hs_8.cell (i := 5) (j := 2) rfl rfl) (hs_8.cell (i := 5) (j := 3) rfl rfl) (hs_8.rdL 6 rfl) (hs_8.rdL 7 rfl) (hs_8.rdParts 8 rfl) (hl.len) (kindN_le _) (lensK_len hl) ((ptsK_b hps_1 hl).1) ((ptsK_b hps_1 hl).2) (by rw [hps_1]; exact ptsK_lt _)).mono fun r_6 w_6 h_6 => ?_))
        have hp_6 := h_6
        have hs_9 := hs_8.adds hp_6
        refine .f rfl (.call ent5 rfl ((tdecode_ok _ (sealN (payl ((l).length) (kindN l) (lensK l) (ptsOf ps_1))) (l) _ (hs_9.rdL 15 rfl) (hl) (by rw [hps_1, payl_K])).mono fun r_7 w_7 h_7 => ?_))
        obtain ⟨g_2, lv_2, bv_2, ps_2, rfl, hps_2, hp_7⟩ := h_7
        have hs_10 : Sat w [_, _, _, _, _, _, _, _, _, _, _, _, _, _, _, _, cObj g_2 65 [(.int .i64 ((l).length : Nat)), (.int .i64 (kindN l)), lv_2, bv_2, (.int .i64 (0 : Nat)), (.slice none 0 0)], cL lv_2 3 (encN .i64) (lensK l), cL bv_2 97 (encPt) (ps_2), cParts (ps_2), _] _ := hs_9.adds hp_7
        refine .m rfl rfl <| .e rfl (.extract rfl rfl) <| .e rfl (.extract rfl rfl) <| .s rfl rfl <| .s rfl rfl <| .nil <| .seq <| .seq <| .region <| .m rfl rfl <| .e rfl (.neqN (a := 0) (b := 0) rfl rfl) <| .m rfl rfl <| .yes rfl rfl rfl (rfl) <| .m rfl rfl <| .yes rfl rfl rfl (rfl) <| .e rfl (.eqlPt Tryz.underlying37 rfl rfl) <| .e rfl (.pickN rfl (rfl) rfl) <| .m rfl rfl <| .yes rfl rfl rfl (rfl) <| .m rfl rfl <| .yes rfl rfl rfl (rfl) <| .e rfl (.neqN (a := 0) (b := 0) rfl rfl) <| .e rfl (.pickN rfl (rfl) rfl) <| .m rfl rfl <| .yes rfl rfl rfl (rfl) <| .m rfl rfl <| .yes rfl rfl rfl (rfl) <| .e rfl (.eqlPt Tryz.underlying23 rfl rfl) <| .e rfl (.pickN rfl (rfl) rfl) <| .nil <| .condF rfl (rfl) <| .skip <| .seq <| .seq <| .region <| .m rfl rfl <| .e rfl (.lenL Tryz.underlying36 rfl (hv.ext hs_10.ext)) <| .m rfl rfl <| .nil <| .block ?_
        have hs_11 : Sat w [_, _, _, _, _, _, _, _, _] w_7 := hs_10.sub ((.cons _ (.cons _ (.cons _ (.cons _ (.cons _ (.cons _ (.cons _ (.cons _ (.cons _ (.cons _ (.cons _ (.cons_cons _ (.cons_cons _ (.cons_cons _ (.cons_cons _ (.cons _ (.cons_cons _ (.cons_cons _ (.cons_cons _ (.cons_cons _ (.cons_cons _ .slnil))))))))))))))))))))))
        refine .loop (α := Nat × Nat × Value × List Nat) (fun (k, last, kv, blk) => [(8, (.pointer (some ⟨dg_1, 0, none⟩))), (10, (.pointer (some ⟨g_2, 0, none⟩))), (77, v), (78, (.int .i64 vs.length)), (79, (.int .i64 k))]) (fun (k, last, kv, blk) w' => Sat w [cObj dg_1 71 [dvw_1, dvc_1, dvo_1], cL dvw_1 9 (encTx) (wordsN vs), cL dvc_1 3 (encN .i64) (countsN vs), cL dvo_1 3 (encN .i64) (ordN (wordsN vs)), cObj g_2 65 [(.int .i64 l.length), (.int .i64 (kindN l)), lv_2, bv_2, (.int .i64 last), kv], cL lv_2 3 (encN .i64) (lensK l), cL bv_2 97 (encPt) (ps_2), cParts (ps_2), cL kv 3 (encN .i64) (blk)] w' ∧ (k ≤ vs.length) ∧ (CacheOk l last blk)) (fun (k, last, kv, blk) => vs.length - k) (0, 0, (.slice none 0 0), []) ⟨rfl, rfl, rfl, rfl, rfl, trivial⟩ ⟨hs_11, Nat.zero_le _, CacheOk.zero l⟩ ?_
        rintro ⟨k, last, kv, blk⟩ w_8 ⟨hs_12, hk, hca⟩
        show CW _ _ _ _ [(8, (.pointer (some ⟨dg_1, 0, none⟩))), (10, (.pointer (some ⟨g_2, 0, none⟩))), (77, v), (78, (.int .i64 vs.length)), (79, (.int .i64 k))] _
        refine .seq <| .region <| .e rfl (.lssN rfl rfl) <| .nil <| .seq <| .condD rfl (fun hc_3 => ?_) (fun hc_3 => ?_)
        · refine .skip <| .seq <| .block <| .seq ?_
          obtain ⟨x, hx⟩ : ∃ x, (vs)[k]? = some x := ⟨_, List.getElem?_eq_getElem hc_3⟩
          refine .region <| .m rfl rfl <| .e rfl (.idxL (E := encTx) sl36 rfl rfl (hv.ext hs_12.ext) (by omega)) <| .e rfl (.ldL (E := encTx) scal9 rfl (hv.ext hs_12.ext) hx (by decide) rfl) <| .s rfl rfl <| .s rfl rfl <| .nil <| .seq <| .region <| .m rfl rfl <| .m rfl rfl ?_
          have hA_1 : Sat w ([cObj g_2 65 [(.int .i64 l.length), (.int .i64 (kindN l)), lv_2, bv_2, (.int .i64 last), kv], cL lv_2 3 (encN .i64) (lensK l), cL bv_2 97 (encPt) (ps_2), cParts (ps_2), cL kv 3 (encN .i64) (blk)] ++ ([cObj dg_1 71 [dvw_1, dvc_1, dvo_1], cL dvw_1 9 (encTx) (wordsN vs), cL dvc_1 3 (encN .i64) (countsN vs), cL dvo_1 3 (encN .i64) (ordN (wordsN vs))] ++ [])) _ := (Sat.order [4, 5, 6, 7, 8, 0, 1, 2, 3] (by decide) hs_12.tail).cut 5
          refine .f rfl (.call ent16 rfl ((sat_ok _ _ _ _ _ _ _ (l) (blk) (ps_2) (last) hA_1 (hl) (hps_2) (hca) (k) (by omega)).mono fun r_8 w_9 h_8 => ?_))
          obtain ⟨ax_1, hax_1, rfl, last_1, kv_1, blk_1, hca_1, hp_8⟩ := h_8
          have hs_13 : Sat w [cObj dg_1 71 [dvw_1, dvc_1, dvo_1], cL dvw_1 9 (encTx) (wordsN vs), cL dvc_1 3 (encN .i64) (countsN vs), cL dvo_1 3 (encN .i64) (ordN (wordsN vs)), cObj g_2 65 [(.int .i64 l.length), (.int .i64 (kindN l)), lv_2, bv_2, (.int .i64 last_1), kv_1], cL lv_2 3 (encN .i64) (lensK l), cL bv_2 97 (encPt) (ps_2), cParts (ps_2), cL kv_1 3 (encN .i64) (blk_1)] _ := (Sat.order [5, 6, 7, 8, 0, 1, 2, 3, 4] (by decide) hp_8.join).untail
          refine .m rfl rfl <| .e rfl (.extract rfl rfl) <| .e rfl (.extract rfl rfl) <| .s rfl rfl <| .s rfl rfl <| .nil <| .seq <| .region <| .m rfl rfl <| .m rfl rfl <| .f rfl (.call ent17 rfl ((word_ok _ _ _ _ _ _ _ ((ax_1 : Nat) : Int) _ (hs_13.lexAt 0 1 2 3 rfl rfl rfl rfl)).mono fun r_9 w_10 h_9 => ?_))
          obtain ⟨rfl, hp_9⟩ := h_9
          have hs_14 := hs_13.adds hp_9
          refine .m rfl rfl <| .e rfl (.extract rfl rfl) <| .e rfl (.extract rfl rfl) <| .s rfl rfl <| .s rfl rfl <| .nil <| .seq ?_
          have hxe : ax_1 = lbW (wordsN vs) x := by have h9 := hax_1; rw [hl0, List.getElem?_map, hx] at h9; exact (Option.some.inj h9).symm
          have hwd : wordAt (wordsN vs) ((ax_1 : Nat) : Int) = (x, true) := by rw [hxe]; exact wordAt_get (wordsN_get (mem_of_get hx))
          refine .weaken [(8, _), (10, _), (12, _), (13, _), (14, _), (15, _), (16, (.string x)), (17, _), (77, _), (78, _), (79, _), (80, _), (81, _), (82, _), (83, _), (84, _), (85, _), (86, _), (87, _), (88, _), (89, _), (90, _), (91, _), (92, _), (93, _), (94, _), (95, _)] ⟨rfl, rfl, rfl, rfl, rfl, rfl, congrArg some (congrArg (fun q : ByteArray × Bool => Value.string q.1) hwd), rfl, rfl, rfl, rfl, rfl, rfl, rfl, rfl, rfl, rfl, rfl, rfl, rfl, rfl, rfl, rfl, rfl, rfl, rfl, rfl, trivial⟩ <| .weaken [(8, _), (10, _), (12, _), (13, _), (14, _), (15, _), (16, _), (17, (.bool true)), (77, _), (78, _), (79, _), (80, _), (81, _), (82, _), (83, _), (84, _), (85, _), (86, _), (87, _), (88, _), (89, _), (90, _), (91, _), (92, _), (93, _), (94, _), (95, _)] ⟨rfl, rfl, rfl, rfl, rfl, rfl, rfl, congrArg some (congrArg (fun q : ByteArray × Bool => Value.bool q.2) hwd), rfl, rfl, rfl, rfl, rfl, rfl, rfl, rfl, rfl, rfl, rfl, rfl, rfl, rfl, rfl, rfl, rfl, rfl, rfl, trivial⟩ <| .region <| .m rfl rfl <| .e rfl (.notB rfl) <| .m rfl rfl <| .yes rfl rfl rfl (rfl) <| .m rfl rfl <| .yes rfl rfl rfl (rfl) <| .e rfl (.notB rfl) <| .e rfl (.pickN rfl (rfl) rfl) <| .m rfl rfl <| .yes rfl rfl rfl (rfl) <| .m rfl rfl <| .yes rfl rfl rfl (rfl) <| .m rfl rfl <| .yes rfl rfl rfl (rfl) <| .e rfl (.strNeq rfl rfl) <| .e rfl (.pickN rfl (rfl) rfl) <| .nil <| .condF rfl (decide_eq_false (fun h9 => h9 rfl)) <| .skip <| .region <| .e rfl (.addI (b := 1) rfl rfl (by omega)) <| .m rfl rfl <| .nil ?_
          exact ⟨(k + 1, last_1, kv_1, blk_1), ⟨rfl, rfl, rfl, rfl, rfl, trivial⟩, ⟨hs_14, by omega, hca_1⟩, (show (vs.length - (k + 1)) < (vs.length - k) from by omega)⟩
        · refine .exit0 <| .seq <| .region <| .f rfl (.call ent7 rfl ((awake_ok _).mono fun r_10 w_11 h_10 => ?_))
          obtain ⟨rfl, hp_10⟩ := h_10
          have hs_15 := hs_12.adds hp_10
          refine .s rfl rfl <| .nil <| .ret ?_
          show PostK _ _ _ _ _ _
          refine post1 rfl rfl ?_
          have hs_16 : Sat w [] w_11 := hs_15.sub ((.cons _ (.cons _ (.cons _ (.cons _ (.cons _ (.cons _ (.cons _ (.cons _ (.cons _ .slnil))))))))))
          exact ⟨rfl, hs_16⟩
    · refine .region <| .m rfl rfl <| .f rfl (.call ent12 rfl ((lbuild_err (hv.ext hs0.ext) he).mono fun r_11 w_12 h_11 => ?_))
      obtain ⟨rfl, hp_11⟩ := h_11
      have hs_17 := hs0.adds hp_11
      refine .m rfl rfl <| .e rfl (.extract rfl rfl) <| .e rfl (.extract rfl rfl) <| .e rfl (.extract rfl rfl) <| .s rfl rfl <| .s rfl rfl <| .s rfl rfl <| .nil <| .seq <| .seq <| .region <| .m rfl rfl <| .e rfl (.neqN (b := 0) rfl rfl) <| .nil <| .condT rfl (decide_eq_true (by omega)) <| .seq <| .region <| .s rfl rfl <| .nil <| .ret ?_
      show PostK _ _ _ _ _ _
      refine post1 rfl rfl ?_
      have hs_18 : Sat w [] w_12 := hs_17.sub (.slnil)
      exact ⟨rfl, hs_18⟩
end Go.Proofs.YtecfgjdpghddgaaGreat
